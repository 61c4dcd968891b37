import Derived.Maps.OwnOps
import Derived.Maps.Views
import Derived.Test.YtadifmnmfnihdaaGreatA06
import Derived.Test.YtadifmnmfnihdaaGreatA13
set_option linter.all false
set_option maxRecDepth 100000
set_option maxHeartbeats 40000000
namespace Go.Proofs.YtadifmnmfnihdaaGreat.V
open Mach
section
variable{w w':Wd}{ls:List (List Nat)}{g:Nat}{x x':bI}
theorem FE{C:Nat}(hk:(aP x).ai=9){c:Int}(hc:c∈x.aq.take (bC x)):aL x c:=by unfold aL;rw[aF hk];exact hc
theorem uX(I:Inv w ls)(hx:w.gs[g]?=some x)(hs:ea w g)(hk:(aP x).ai=9)(p:Int)(hp:x.ae=24∧p=25∨x.ae=31∧p=32):∃w',jt w g p=some w'∧Inv w' ls∧bK w w':=by
 have L:=I.loc g x hx;obtain⟨s1,s2,s3⟩:=L.oW hk (by omega) (by omega) (by omega) (by omega);have kE:=s2.1 (by omega);have hg:g<w.gs.length:=cA hx;obtain⟨l,hl⟩:∃l,x.aq[x.k.toNat]?=some l:=⟨_,fv (by omega)⟩;have IF:=s1.lk l (lf hl)
 have cP:x.aq.length≤8:=by
  have h:=jy 9 (x.aq.map Int.toNat) ?_ ?_
  ·rw[ko]at h;have:=jy 8 (x.aq.map fun z=>(z-1).toNat) ?_ ?_
   ·rw[ko]at this;exact this
   ·refine List.pairwise_map.2 (s1.BD.imp_of_mem fun {a b} ha hb G3 e=>?_);have:=(s1.lk a ha).1;have:=(s1.lk b hb).1;omega
   ·intro y hy;obtain⟨z,hz,rfl⟩:=List.mem_map.1 hy;have:=s1.lk z hz;have:=I.c8;omega
  ·refine List.pairwise_map.2 (s1.BD.imp_of_mem fun {a b} ha hb G3 e=>?_);have:=(s1.lk a ha).1;have:=(s1.lk b hb).1;omega
  ·intro y hy;obtain⟨z,hz,rfl⟩:=List.mem_map.1 hy;have:=s1.lk z hz;have:=I.c8;omega
 have ei:idx x.aq x.k=some l:=by unfold idx;rw[aF kE.1];exact hl
 have okl:kJ l=true:=by unfold kJ;simp;have:=I.c8;omega
 have Dn:kJ x.k=true:=by unfold kJ;simp;omega
 obtain⟨h,h1,h2⟩:=za I hg IF;unfold jt;simp only[hx,ei,okl,bW,eN,m8,dF,h2];by_cases e:h= -1
 ·subst e;simp only[dt,m8,dF,Dn];have rel:∀{c:Int},(aL x c∨x.aq[x.k.toNat]?=some c)↔(aL x c∨c=l):=fun {c}=>by rw[hl];simp only[oZ];exact or_congr Iff.rfl ⟨fun h=>h.symm,fun h=>h.symm⟩
  by_cases j7:x.k+1=x.aq.length
  ·rw[aF j7];rcases hp with⟨hp,rfl⟩|⟨hp,rfl⟩
   ·obtain⟨m1,m2,m3⟩:=M.am4 L hk hp j7;exact⟨_,rfl,I.XK hx hs m1 ⟨by simp,by simp⟩ m2 IF (fun d=>(m3 d).trans rel) rfl h1⟩
   ·obtain⟨m1,m2,m3⟩:=M.am6 L hk hp j7;exact⟨_,rfl,I.XK hx hs m1 ⟨by simp,by simp⟩ m2 IF (fun d=>(m3 d).trans rel) rfl h1⟩
  ·rw[aE j7];rcases hp with⟨hp,rfl⟩|⟨hp,rfl⟩
   ·obtain⟨m1,m2,m3⟩:=M.am3 L hk hp (by omega);exact⟨_,rfl,I.XK hx hs m1 ⟨by simp[hp],by simp[hp]⟩ m2 IF (fun d=>(m3 d).trans rel) rfl h1⟩
   ·obtain⟨m1,m2,m3⟩:=M.am5 L hk hp (by omega);exact⟨_,rfl,I.XK hx hs m1 ⟨by simp[hp],by simp[hp]⟩ m2 IF (fun d=>(m3 d).trans rel) rfl h1⟩
 ·simp only[aE e,nW,dt];exact⟨w,rfl,I,bK.refl w⟩
end
section
variable{w w':Wd}{ls:List (List Nat)}{g z s:Nat}{x x' y:bI}{sd:gn}
theorem Ca(h:x.ae≠12∧x.ae≠13∧x.ae≠14∧x.ae≠29∧x.ae≠30∧x.ae≠31∧x.ae≠32)(sd:gn):¬eV x sd:=by
 rintro(⟨_,h1,_⟩|⟨_,h1⟩)
 ·omega
 ·rcases h1 with⟨h1,_⟩|⟨h1,_⟩|h1|h1|⟨h1,_⟩|⟨h1,_⟩<;>omega
theorem uy(h:x.ae≠12∧x.ae≠13∧x.ae≠14∧x.ae≠29∧x.ae≠30):¬aW x:=fun hw=>by have:=iB hw;omega
theorem Cb(I:Inv w ls)(hx:w.gs[g]?=some x)(hs:ea w g)(hk:2≤(aP x).ai∧(aP x).ai≤6∨(aP x).ai=9)(hp:x.ae=17):∃z w',x.wakes[0]?=some z∧dk (({w with ax:=(ready w.ax z).1}:Wd).ay g {x with wakes:=x.wakes.drop 1}) g=some w'∧Inv w' ls∧bK w w':=by
 have L:=I.loc g x hx;obtain⟨t,hb⟩:=hs;have oN:¬aW x:=uy (by omega)
 cases J0:x.wakes with
 |nil=>exact aX J0 (L.ready hp)
 |cons z0 rest=>
  have fV:z0∈x.wakes:=by rw[J0];simp
  obtain⟨j,y,s,rfl,hy,XL,hyp,Vx,ap4⟩:=I.jn g x z0 hx fV;obtain⟨a1,a2,a3,a4,a5,a6,a7⟩:=I.st j y s false hy Vx;have aA5:=iB XL;have ZN:s=0∨s=1:=by rcases Int.lt_or_lt_of_ne (a:=s) (b:=2) (fun h=>by have:=(a7 h).1;omega)with h|h<;>omega
  have hjg:j≠g:=by rintro rfl;rw[hx]at hy;cases hy;exact oN XL
  have jF:(ready w.ax j).1=w.ax.set j (if s=1 then(0,false)else(0,true)):=by
   unfold ready;rw[(qm Vx).1,(qm Vx).2];rcases ZN with h|h
   ·subst h;simp
   ·subst h;simp
  obtain⟨x',th,hL,hh,kM⟩:∃x':bI,x'={x with wakes:=rest,ae:=if rest=[]then 18 else 17}∧Loc w.au.length x'∧(∀c,aL x' c↔aL x c)∧(x'.ae=17∨x'.ae=18):=by
   by_cases hr:rest=[]
   ·subst hr;obtain⟨m2,m3⟩:=M.ao3 L hk hp;exact⟨_,by rw[aF rfl],m2,m3,.inr rfl⟩
   ·obtain⟨m2,m3⟩:=M.ao2 L hk hp rest hr;exact⟨_,by rw[aE hr],m2,m3,.inl rfl⟩
  have eg:aP x'=aP x:=by rw[th];rfl
  have K:=I.iQ (x':=x') hx eg (by rw[th]) (by rw[th]);have ZO:x'.wakes.Sublist x.wakes:=by rw[th,J0];exact List.sublist_cons_self _ _
  have W:=I.jU (x':=x') hx ZO;have hzr:(j:Int) ∉ rest:=by have:=I.pg g x hx;rw[J0,List.nodup_cons]at this;exact this.1
  refine⟨j,({w with ax:=(ready w.ax j).1}:Wd).ay g x',rfl,?_,I.mn (w':=({w with ax:=(ready w.ax j).1}:Wd).ay g x') hx hL (fun k l s sd _ _ _ _ a c=>aX c (Ca (by omega) sd)) K.1 K.2.1 (fun j u s sd _ _ _ _ _ _ a b _ _ _=>aX a (fun _=>oN b)) (fun h=>by unfold aT at h;omega) (fun h=>by unfold bm at h;omega) (I.qB hx K.2.2 (by rw[th]) (fun h=>aX h oN)) W.1 W.2 rfl ?_ rfl I.au rfl rfl (I.lock.same hx hh) rfl rfl rfl ?_ ?_,dW hx (by rw[th]),rfl,rfl,rfl,rfl,rfl⟩
  ·have eE:(({w with ax:=(ready w.ax j).1}:Wd).ay g {x with wakes:=(((j:Int))::rest).drop 1}).gs[g]?=some {x with wakes:=rest}:=by simp only[sU,rC];exact di _ hx
   rw[IC eE,cY,th];try simp only[sU,rC]
  ·show(ready w.ax j).1.length=w.ax.length;rw[jF];simp
  ·show tc (w.gs.set g x') (ready w.ax j).1;rw[jF];intro i u s' t' hu ff;rcases SQ Vx ff with⟨rfl,e⟩|⟨cM,ff⟩
   ·rcases cX hx hu with⟨h,_⟩|⟨_,hu⟩
    ·exact aX h hjg
    ·rw[hy]at hu;cases hu;rcases ZN with h|h
     ·subst h;rw[aE (by omega)]at e
      cases e;exact⟨by omega,by omega,fun _=>⟨XL,fun h=>by have:=ap4 h;omega,hyp,rfl⟩,fun h=>by omega,fun h=>by omega,fun h _=>hyp,fun h=>by omega⟩
     ·subst h;rw[aF rfl]at e
      cases e;exact⟨by omega,by omega,fun h=>(by cases h),fun h=>by omega,fun h=>by omega,fun h _=>hyp,fun h=>by omega⟩
   ·rcases cX hx hu with⟨rfl,rfl⟩|⟨_,hu⟩
    ·rw[hb]at ff;cases ff;obtain⟨b1,b2,b3,b4,b5,b6,b7⟩:=I.st _ x 0 t hx hb;exact⟨b1,b2,fun h=>aX (b3 h).1 oN,fun h=>by omega,fun h=>by omega,fun h=>by omega,fun h=>by omega⟩
    ·exact I.st i u s' t' hu ff
  ·show pD (w.gs.set g x') (ready w.ax j).1;rw[jF];intro i u a hu ha
   have xq:∃(j0:Nat) (y0:bI),w.gs[j0]?=some y0∧a∈y0.wakes∧a≠j:=by
    rcases cX hx hu with⟨h1,h2⟩|⟨cM,hu⟩
    ·refine⟨g,x,hx,ZO.subset (by rw[←h2];exact ha),fun e=>hzr ?_⟩;rw[h2,th]at ha;rw[←e];exact ha
    ·exact⟨i,u,hu,ha,fun e=>cM (I.rf i u g x a hu hx ha (by rw[e];exact fV))⟩
   obtain⟨j0,y0,J2,ap5,ap6⟩:=xq;obtain⟨i',v,s',h0,h1,h2,h3,h4,h5⟩:=I.jn j0 y0 a J2 ap5;have XM:i'≠g:=(by rintro rfl;rw[hx]at h1;cases h1;exact oN h2);have K0:i'≠j:=(by rintro rfl;exact ap6 h0);exact⟨i',v,s',h0,by rw[gd _ XM];exact h1,h2,h3,by rw[bne _ K0];exact h4,h5⟩
theorem LZ(I:Inv w ls)(hx:w.gs[g]?=some x)(hs:ea w g)(hk:(aP x).ai=2∨(aP x).ai=3)(hp:x.ae=15):∃(s:Nat) (sd:gn),x.bY=s∧w.ah[s]?=some sd∧Inv (({w.cJ s {}with ar:=(w.ar.nh g x.bY).1}:Wd).ay g {x with bY:= -1,ae:=18}) ls∧bK w (({w.cJ s {}with ar:=(w.ar.nh g x.bY).1}:Wd).ay g {x with bY:= -1,ae:=18}):=by
 have L:=I.loc g x hx;obtain⟨s,hm⟩:=pz (L.bY (by omega) (by omega));obtain⟨sd,h1,h2,h3,h4⟩:=I.bY g x s hx hm;obtain⟨m2,m3⟩:=M.Ip L hk hp;have oN:¬aW x:=uy (by omega);have hg:g<w.gs.length:=cA hx;have oo:=L.yC (by omega);have W:=I.jU (x':={x with bY:= -1,ae:=18}) hx (List.Sublist.refl _)
 have I1:Inv (w.ay g {x with bY:= -1,ae:=18}) ls:=
  I.mn hx m2 (fun k l s sd _ _ _ _ a c=>aX c (Ca (by omega) sd)) (fun s h=>by simp only at h;omega) (fun i s h=>by simp only[oo]at h;simp at h) (fun j u s sd _ _ _ _ _ _ a b _ _ _=>aX b oN) (fun h=>by unfold aT at h;simp at h) (fun h=>by unfold bm at h;simp at h)
   (fun s h=>by have:=L.aN.2 oN;simp only at h;omega) W.1 W.2 rfl rfl rfl I.au rfl rfl (I.lock.same hx m3) rfl rfl rfl (I.st.same hx hs (fun h=>aX h oN) rfl (by simp) (by simp)) (I.jn.same hx (fun h=>aX h oN) rfl rfl (by simp))
 have Pc:=I.cK s sd h1 h2;obtain⟨g1,g2,g3⟩:=B7 (g:=g) I.ar hg Pc;refine⟨s,sd,hm,h1,?_,dW hx rfl,rfl,rfl,rfl,rfl,rfl⟩;rw[hm];refine I1.Wk (s:=s) (sd:=sd) (sd':={}) (p':=(w.ar.nh g s).1) h1 (fun _ j u hu hj ho=>?_) (by simp only[Wd.ay,kI];exact g3) g2 (fun h=>by cases h);obtain rfl:j=g:=by omega
 rw[mH hx]at hu
 cases hu;rcases ho with⟨_,h,_⟩|⟨h,_⟩
 ·simp only at h;omega
 ·have:(aP x).ai=9:=h;omega
theorem Inv.Kq{b:Bool}(I:Inv w ls)(hx:w.gs[g]?=some x)(hs:ea w g)(mh:z≠g)(hy:w.gs[z]?=some y)(hw:aW y)(hp:y.aN= -1)(Ft:∀(j:Nat) u (s':Nat) sd',w.gs[j]?=some u→aT u→u.br=s'→w.ah[s']?=some sd'→sd'.g≠z)(h1:w.ah[s]?=some sd)(h2:sd.cK=true)(h3:sd.g=z)(ho:eP y s sd)(ZP:(aP y).ai=9→b=true)(Hy:(aP y).ai≠9→b=y.bk)(hq:(aP y).ai≠9→∀(k:Nat) l,ls[k]?=some l→s ∉ l)(Ek:aT x')(Xv:x'.br=s)(bO:aL x' sd.ch)(oO:¬aW x)(rl:∀sd,¬eV x sd)(e0:x'.ops=x.ops)(e1:x'.at_=x.at_)(e2:x'.bY=x.bY)(e3:x'.bA=x.bA)(e4:x'.wakes=x.wakes)(e5:x'.aN=x.aN)(hL:Loc w.au.length x')(hh:∀c,aL x' c↔aL x c)(p q:Int):Inv ((w.ay z {y with point:=p,bF:=q,fire:=sd.case,bk:=b}).ay g x') ls∧bK w ((w.ay z {y with point:=p,bF:=q,fire:=sd.case,bk:=b}).ay g x'):=by
 have hf:(aP y).ai≠9→sd.case= -1:=fun hk=>by
  rcases ho with⟨_,_,h,_⟩|⟨h,_⟩
  ·exact h
  ·exact aX h hk
 obtain⟨I1,K1⟩:=I.UY hy hw hp Ft p q sd.case b hf Hy;have eE:(w.ay z {y with point:=p,bF:=q,fire:=sd.case,bk:=b}).gs[g]?=some x:=by rw[ya _ (dE mh)];exact hx
 have rj:x'.ae=8∨x'.ae=27:=Ek;have K:=I1.iQ (x':=x') eE (oM e0 e1) e2 e3;have W:=I1.jU (x':=x') eE (by rw[e4];exact List.Sublist.refl _);have RE:¬bm x':=fun h=>by unfold bm at h;omega
 refine⟨I1.mn eE hL (fun k l s sd _ _ _ _ a c=>aX c (rl sd)) K.1 K.2.1 (fun j u s sd _ _ _ _ _ _ a b _ _ _=>aX b oO) (fun _=>?_) (fun h=>aX h RE) (I1.qB eE K.2.2 e5 (fun h=>aX h oO)) W.1 W.2 rfl rfl rfl I1.au rfl rfl (I1.lock.same eE hh) rfl rfl rfl (I1.st.same eE hs (fun h=>aX h oO) e5 (fun h=>by omega) (by omega)) (I1.jn.same eE (fun h=>aX h oO) e5 e4 (fun h=>by omega)),K1.trans ⟨dW eE e0,rfl,rfl,rfl,rfl,rfl⟩⟩;refine⟨s,z,sd,{y with point:=p,bF:=q,fire:=sd.case,bk:=b},Xv,h1,h2,h3,mh,mH hy _,?_,hw,hp,rfl,ZP,hq,bO,?_⟩
 ·exact ho
 ·intro j u s' sd' hu cM hc SR hs';by_cases hj:j=z
  ·subst hj;rw[mH hy]at hu
   cases hu;have:=(xZ (iB hw)).1;exact aX hc this
  ·rw[ya _ hj]at hu;exact Ft j u s' sd' hu hc SR hs'
end
section
variable{w w' w2:Wd}{ls:List (List Nat)}{g z s:Nat}{x x' y:bI}{sd:gn}
theorem ky{q':bf}(h:fZ w s=some {w with aw:=q'})(e:w2.aw=w.aw):fZ w2 s=some {w2 with aw:=q'}:=by
 unfold fZ at h ⊢;rw[e]
 cases hq:w.aw.drop s with
 |none=>rw[hq]at h;cases h
 |some q=>
  rw[hq]at h;simp only[km,oZ,Wd.mk.injEq]at h;simp only[km,oZ,Wd.mk.injEq,true_and,and_true];exact h.2.2.2.2.2.2.2.2.1
theorem Pd(I:Inv w ls){c:Int}(hc:1≤c∧c≤w.au.length):1≤c∧c≤w.aq.length:=by rw[I.aq];exact hc
theorem Kr(I:Inv w ls){kk:Int}(hk:0≤kk∧kk<16):(w.aw.first kk=(0,false))∨∃(s z:Nat) (l:List Nat) (sd:gn) (y:bI),w.aw.first kk=((s:Int),true)∧ls[kk.toNat]?=some l∧s∈l∧w.ah[s]?=some sd∧sd.cK=true∧sd.g=z∧w.gs[z]?=some y∧eP y s sd∧eV y sd∧kk=Lh sd:=by
 obtain⟨k,kE⟩:=pz hk.1;subst kE;have hf:=I.q.first k;obtain⟨l,hl⟩:∃l,ls[k]?=some l:=⟨_,fv (by have:=I.bM;omega)⟩;rw[hl]at hf
 cases l with
 |nil=>exact .inl hf
 |cons s l=>
  obtain⟨sd,z,y,h1,h2,h3,h4,h5,h6,h7⟩:=I.EJ k (s::l) s hl (by simp);exact .inr ⟨s,z,s::l,sd,y,hf,by simpa using hl,by simp,h1,h2,h3,h4,h5,h6,h7⟩
theorem wm(I:Inv w ls)(hx:w.gs[g]?=some x)(hl:¬bm x)(hs:w.ah[s]?=some sd)(hh:aL x sd.ch)(hc:1≤sd.ch∧sd.ch≤w.au.length):∀(j:Nat) u,w.gs[j]?=some u→bm u→u.br≠s:=by
 intro j u hu hlu e;obtain⟨s',k,l,sd',a,b,c,d,e',f⟩:=I.look j u hu hlu;obtain rfl:s'=s:=by omega
 rw[hs]at d;cases d;have:=I.lock.one hx hu hh f (Pd I hc);subst this;rw[hx]at hu;cases hu;exact hl hlu
theorem Ks{c kk:Int}(h:kk=2*c-2∨kk=2*c-1)(hq:kk=Lh sd):sd.ch=c:=by
 unfold Lh at hq;split at hq<;>omega
theorem wu(h1:aP x'=aP x)(h2:¬aW x)(h3:¬aW x')(h4:∀sd,¬eV x sd)(h5:¬aT x')(h6:¬bm x')(h7:x'.bY=x.bY)(h8:x'.bA=x.bA)(h9:x'.wakes=x.wakes)(ph:x'.aN=x.aN):lH x x':=
 ⟨h1,⟨fun h=>aX h h3,fun h=>aX h h2⟩,h5,h6,h7,h8,h9,ph,fun h=>aX h h2,fun sd h=>aX h (h4 sd)⟩
theorem Inv.Pe(I:Inv w ls)(hx:w.gs[g]?=some x)(hs:ea w g){k:Nat}{l:List Nat}(hl:ls[k]?=some l)(hm:s∈l)(h1:w.ah[s]?=some sd)(hc:0≤sd.case)(Aq:bm x')(Xv:x'.br=s)(bO:aL x' sd.ch)(oO:¬aW x)(rl:∀sd,¬eV x sd)(e0:x'.ops=x.ops)(e1:x'.at_=x.at_)(e2:x'.bY=x.bY)(e3:x'.bA=x.bA)(e4:x'.wakes=x.wakes)(e5:x'.aN=x.aN)(hL:Loc w.au.length x')(hh:∀c,aL x' c↔aL x c):Inv (w.ay g x') ls∧bK w (w.ay g x'):=by
 have rj:x'.ae=7∨x'.ae=26∨x'.ae=23:=Aq;have K:=I.iQ (x':=x') hx (oM e0 e1) e2 e3;have W:=I.jU (x':=x') hx (by rw[e4];exact List.Sublist.refl _);have RE:¬aT x':=fun h=>by unfold aT at h;omega
 exact⟨I.mn hx hL (fun k l s sd _ _ _ _ a c=>aX c (rl sd)) K.1 K.2.1 (fun j u s sd _ _ _ _ _ _ a b _ _ _=>aX b oO) (fun h=>aX h RE) (fun _=>⟨s,k,l,sd,Xv,hl,hm,h1,hc,bO⟩) (I.qB hx K.2.2 e5 (fun h=>aX h oO)) W.1 W.2 rfl rfl rfl I.au rfl rfl (I.lock.same hx hh) rfl rfl rfl (I.st.same hx hs (fun h=>aX h oO) e5 (fun h=>by omega) (by omega)) (I.jn.same hx (fun h=>aX h oO) e5 e4 (fun h=>by omega)),
  dW hx e0,rfl,rfl,rfl,rfl,rfl⟩
theorem FF(I:Inv w ls)(hx:w.gs[g]?=some x)(hl:¬bm x)(rl:∀sd,¬eV x sd){c:Int}(hc:1≤c∧c≤w.au.length)(hh:aL x c){kk:Int}(kE:kk=2*c-2∨kk=2*c-1)(Ey hand:Int):Mach.take w g kk Ey hand=some (w,false)∨(∃(s k:Nat) (l:List Nat) (sd:gn),Mach.take w g kk Ey hand=some (w.ay g {x with br:=s,ae:=Ey},true)∧ls[k]?=some l∧s∈l∧w.ah[s]?=some sd∧0≤sd.case∧sd.ch=c)∨(∃(s z:Nat) (sd:gn) (y:bI) (q':bf),Mach.take w g kk Ey hand=some ((({w with aw:=q'}:Wd).ay z {y with point:=w.av,bF:=g,fire:=sd.case}).ay g {x with br:=s,t:=w.av,point:=w.av,bF:=z,ae:=hand},true)∧Inv {w with aw:=q'} (iA ls s)∧w.ah[s]?=some sd∧sd.cK=true∧sd.g=z∧z≠g∧w.gs[z]?=some y∧eP y s sd∧(aP y).ai≠9∧aW y∧y.aN= -1∧sd.ch=c∧(∀(k:Nat) l,(iA ls s)[k]?=some l→s ∉ l)∧∀(j:Nat) u (s':Nat) sd',w.gs[j]?=some u→aT u→u.br=s'→w.ah[s']?=some sd'→sd'.g≠z):=by
 have hc8:=I.c8;rcases Kr I (kk:=kk) (by omega)with h|⟨s,z,l,sd,y,h1,h2,h3,h4,h5,h6,h7,h8,h9,ph⟩
 ·left;unfold Mach.take;rw[h];rfl
 ·right;have bO:=Ks kE ph;have mh:z≠g:=by rintro rfl;rw[hx]at h7;cases h7;exact rl sd h9
  by_cases lR:0≤sd.case
  ·left;refine⟨s,kk.toNat,l,sd,?_,h2,h3,h4,lR,bO⟩;unfold Mach.take;simp only[h1,m8,dF,eQ,hx,h4,bW,eN,aF lR]
  ·right
   have jA:(aP y).ai≠9:=by
    rcases h8 with h|⟨_,h,_⟩
    ·exact h.1
    ·exact aX h lR
   have SS:aW y∧y.aN= -1:=by
    rcases h9 with⟨a,b,c⟩|⟨a,_⟩
    ·exact⟨.inl ⟨a,b⟩,c⟩
    ·exact aX a jA
   have mj:s<w.ah.length:=cA h4;obtain⟨q',d1,d2,d3⟩:=I.B8 mj (wm I hx hl h4 (by rw[bO];exact hh) (by rw[bO];exact hc));have Ft:=I.wj h2 h3 h4 h6 h7 (fun h=>aX h jA);refine⟨s,z,sd,y,q',?_,d2,h4,h5,h6,mh,h7,h8,jA,SS.1,SS.2,bO,d3,Ft⟩;unfold Mach.take;simp only[h1,m8,dF,eQ,hx,h4,bW,eN,aE lR];rw[ky (w2:=w.ay g {x with br:=s,t:=w.av}) d1 rfl];simp only[eN];have kt:({(w.ay g {x with br:=s,t:=w.av})with aw:=q'}:Wd).gs[g]?=some {x with br:=s,t:=w.av}:=di _ hx;have rN:({(w.ay g {x with br:=s,t:=w.av})with aw:=q'}:Wd).gs[z]?=some y:=(by show(w.gs.set g _)[z]?=_;rw[gd _ mh];exact h7);rw[Kp (sd:=sd) kt h4 h6 rN mh];simp only[eN];rw[wa (x:={x with br:=s,t:=w.av,point:=w.av,bF:=z}) (by show((((w.gs.set g _).set g _)).set z _)[g]?=_;rw[gd _ (dE mh)];exact di (x:={x with br:=s,t:=w.av}) _ (di _ hx))];simp only[km,oZ,Prod.mk.injEq,and_true];unfold Wd.ay;simp only[Wd.mk.injEq,true_and,and_true];apply List.ext_getElem?;intro i;by_cases h1:i=g
   ·subst h1;have hg:i<w.gs.length:=cA hx;simp[sW,hg]
   ·by_cases h2:i=z
    ·subst h2;have Ay:i<w.gs.length:=cA h7;simp[sW,Ay,h1,dE h1]
    ·simp[sW,dE h1,dE h2]
theorem Cc(I:Inv w ls)(hx:w.gs[g]?=some x)(hs:ea w g)(hk:2≤(aP x).ai∧(aP x).ai≤5)(hp:x.ae=6){kk:Int}(kE:kk=2*(aP x).ch-2∨kk=2*(aP x).ch-1):Mach.take w g kk 7 8=some (w,false)∨∃w' fM,Mach.take w g kk 7 8=some (w',true)∧Inv w' fM∧bK w w':=by
 have L:=I.loc g x hx;have hc:=L.cZ (by omega) (by omega) (by omega) (by omega) (by omega);have hh:aL x (aP x).ch:=by unfold aL cH;rw[aE (by omega)];exact⟨by omega,rfl⟩
 have oO:¬aW x:=uy (by omega);have rl:∀sd,¬eV x sd:=Ca (by omega);rcases FF I hx (fun h=>by unfold bm at h;omega) rl hc hh kE 7 8 with h|⟨s,k,l,sd,h1,h2,h3,h4,h5,h6⟩|⟨s,z,sd,y,q',h1,h2,h3,h4,h5,h6,h7,h8,h9,ph,rA,uQ,uu,Dp⟩
 ·exact .inl h
 ·right;obtain⟨m2,m3⟩:=M.p6l L hk hp s;exact⟨_,ls,h1,I.Pe hx hs h2 h3 h4 h5 (.inl rfl) rfl (by rw[h6];exact(m3 _).2 hh) oO rl rfl rfl rfl rfl rfl rfl m2 m3⟩
 ·right;obtain⟨m2,m3⟩:=M.p6c L hk hp s w.av w.av z;have hb:=h2.Kq (x':={x with br:=s,t:=w.av,point:=w.av,bF:=z,ae:=8}) (b:=y.bk) hx hs h6 h7 ph rA Dp h3 h4 h5 h8 (fun h=>aX h h9) (fun _=>rfl) (fun _=>uu) (.inl rfl) rfl (by rw[uQ];exact(m3 _).2 hh) oO rl rfl rfl rfl rfl rfl rfl m2 m3 w.av g;exact⟨_,_,h1,hb.1,(show bK w {w with aw:=q'}from⟨rfl,rfl,rfl,rfl,rfl,rfl⟩).trans hb.2⟩
theorem Kt(I:Inv w ls)(hx:w.gs[g]?=some x)(Aq:bm x)(oO:¬aW x)(rl:∀sd,¬eV x sd)(lost Eh:Int)(kM:lost≠7∧lost≠26∧lost≠23)(BZ:Inv (w.ay g {x with br:= -1,ae:=lost}) ls∧(∀c,aL {x with br:= -1,ae:=lost} c↔aL x c)):(∃w' fM,rD w g lost Eh=some w'∧Inv w' fM∧bK w w'∧w'={w.ay g {x with br:= -1,ae:=lost}with aw:=w'.aw})∨∃(s z k:Nat) (l:List Nat) (sd:gn) (y:bI),rD w g lost Eh=some ((w.ay z {y with point:=w.av,bF:=g,fire:=sd.case,bk:=true}).ay g {x with t:=w.av,point:=w.av,bF:=z,ae:=Eh})∧x.br=s∧w.ah[s]?=some sd∧sd.cK=true∧sd.g=z∧z≠g∧w.gs[z]?=some y∧eP y s sd∧(aP y).ai=9∧aW y∧y.aN= -1∧aL x sd.ch∧∀(j:Nat) u (s':Nat) sd',w.gs[j]?=some u→aT u→u.br=s'→w.ah[s']?=some sd'→sd'.g≠z:=by
 obtain⟨s,k,l,sd,a1,a2,a3,a4,a5,a6⟩:=I.look g x hx Aq;obtain⟨sd',z,y,b1,b2,b3,b4,b5,b6,b7⟩:=I.EJ k l s a2 a3;rw[a4]at b1;cases b1;have mh:z≠g:=by rintro rfl;rw[hx]at b4;cases b4;exact rl sd b6
 have oz:(aP y).ai=9:=by
  rcases b5 with⟨_,_,h,_⟩|⟨h,_⟩
  ·omega
  ·exact h
 have U1:=I.loc z y b4;have an:nat? x.br=some s:=by rw[a1];exact eQ s
 unfold rD;simp only[hx,an,eQ,a4,b3,b4,bW,eN];rw[aE mh]
 cases B9:y.bk with
 |true=>
  left;simp only[dt];have mj:s<w.ah.length:=cA a4
  have SU:1≤sd.ch∧sd.ch≤w.au.length:=by
   rcases b5 with⟨h,_⟩|⟨_,_,oF,c,xz,Ws,_⟩
   ·exact aX oz h
   ·have kM:y.ae≠0∧y.ae≠17∧y.ae≠18∧y.ae≠19:=by
     rcases b6 with⟨h,_⟩|⟨_,h⟩
     ·exact aX oz h
     ·rcases h with⟨h,_⟩|⟨h,_⟩|h|h|⟨h,_⟩|⟨h,_⟩<;>omega
    obtain⟨s1,s2,s3⟩:=U1.oW oz kM.1 kM.2.1 kM.2.2.1 kM.2.2.2;obtain⟨_,c',e1,e2,e3,_⟩:=s1.ord _ (s3.own _ _ oF (by omega)).2;have e4:((sd.case.toNat:Nat):Int).toNat=sd.case.toNat:=(by omega);rw[e4,xz]at e1
    cases e1;rw[Ws];exact⟨e2,e3⟩
  have eE:(w.ay g {x with br:= -1,ae:=lost}).gs[g]?=some {x with br:= -1,ae:=lost}:=di _ hx;obtain⟨q',d1,d2,d3⟩:=BZ.1.B8 mj (wm BZ.1 eE (fun h=>by unfold bm at h;simp only at h;omega) a4 ((BZ.2 _).2 a6) SU);rw[ky (w2:=w) d1 rfl];exact⟨_,_,rfl,d2,⟨dW hx rfl,rfl,rfl,rfl,rfl,rfl⟩,rfl⟩
 |false=>
  right;simp only[nW,dF]
  have hw:aW y∧y.aN= -1:=by
   have hn:¬(y.ae=31∨y.ae=32):=fun h=>by have:=(U1.bk oz).2 h;rw[B9]at this;cases this
   have ZQ:aW y:=by
    rcases b6 with⟨h,_⟩|⟨_,h⟩
    ·exact aX oz h
    ·right;refine⟨oz,?_⟩;rcases h with⟨h,_⟩|h|h|h|⟨h,_⟩|⟨h,_⟩
     ·exact .inl h
     ·exact .inr (.inl h)
     ·exact .inr (.inr (.inl h))
     ·exact .inr (.inr (.inr h))
     ·exact aX (.inl h) hn
     ·exact aX (.inr h) hn
   refine⟨ZQ,?_⟩;have h1:=U1.aN.1;by_cases h2:0≤y.aN
   ·have:=(U1.bk oz).1 ZQ h2;rw[B9]at this;cases this
   ·omega
  refine⟨s,z,k,l,sd,y,?_,a1,a4,b2,b3,mh,b4,b5,oz,hw.1,hw.2,a6,I.wj a2 a3 a4 b3 b4 (fun _=>B9)⟩;have kt:((w.ay z {y with bk:=true}).ay g {x with t:=w.av}).gs[g]?=some {x with t:=w.av}:=by apply di (x:=x);show(w.gs.set z _)[g]?=_;rw[gd _ (dE mh)];exact hx
  have rN:((w.ay z {y with bk:=true}).ay g {x with t:=w.av}).gs[z]?=some {y with bk:=true}:=by show((w.gs.set z _).set g _)[z]?=_;rw[gd _ mh];exact di _ b4
  rw[Kp (sd:=sd) kt a4 b3 rN mh];simp only[eN];have nM:((((w.ay z {y with bk:=true}).ay g {x with t:=w.av}).ay g {x with t:=w.av,point:=w.av,bF:=z}).ay z {y with bk:=true,point:=w.av,bF:=g,fire:=sd.case}).gs[g]?=some {x with t:=w.av,point:=w.av,bF:=z}:=by show((((w.gs.set z _).set g _).set g _).set z _)[g]?=_;rw[gd _ (dE mh)];exact di (x:={x with t:=w.av}) _ kt
  rw[wa nM];simp only[oZ];unfold Wd.ay;simp only[Wd.mk.injEq,true_and,and_true];apply List.ext_getElem?;intro i;by_cases h1:i=g
  ·subst h1;have hg:i<w.gs.length:=cA hx;simp[sW,hg]
  ·by_cases h2:i=z
   ·subst h2;have Ay:i<w.gs.length:=cA b4;simp[sW,Ay,h1,dE h1]
   ·simp[sW,dE h1,dE h2]
theorem FG(I:Inv w ls)(hx:w.gs[g]?=some x)(hs:ea w g)(hk:2≤(aP x).ai∧(aP x).ai≤5)(hp:x.ae=7):∃w' fM,rD w g 6 8=some w'∧Inv w' fM∧bK w w':=by
 have L:=I.loc g x hx;have oO:¬aW x:=uy (by omega);have rl:∀sd,¬eV x sd:=Ca (by omega);have Nv:∀c,aL x c→c=(aP x).ch:=fun c h=>by unfold aL at h;rw[aE (by omega)]at h;exact h.2
 obtain⟨m2,m3⟩:=M.p7l L hk hp;have F:=I.ku hx hs (x':={x with br:= -1,ae:=6}) (wu rfl oO (uy (by simp)) rl (fun h=>by unfold aT at h;simp at h) (fun h=>by unfold bm at h;simp at h) rfl rfl rfl rfl) ⟨by simp,by simp⟩ m2 m3 rfl;rcases Kt I hx (.inl hp) oO rl 6 8 (by omega) ⟨F.1,m3⟩with⟨w',fM,h1,h2,h3,_⟩|⟨s,z,k,l,sd,y,h1,h2,h3,h4,h5,h6,h7,h8,h9,ph,rA,uQ,uu⟩
 ·exact⟨w',fM,h1,h2,h3⟩
 ·obtain⟨m2,m3⟩:=M.p7c L hk hp w.av w.av z;exact⟨_,ls,h1,I.Kq (x':={x with t:=w.av,point:=w.av,bF:=z,ae:=8}) hx hs h6 h7 ph rA uu h3 h4 h5 h8 (fun _=>rfl) (fun h=>aX h9 h) (fun h=>aX h9 h) (.inl rfl) h2 ((m3 _).2 uQ) oO rl rfl rfl rfl rfl rfl rfl m2 m3 w.av g⟩
theorem Inv.Pf(I:Inv w ls)(c:Nat){r:Ring}(hr:r.Ok):Inv (w.dZ c r) ls∧bK w (w.dZ c r):=by
 have cP:(w.dZ c r).au.length=w.au.length:=by simp[Wd.dZ]
 refine⟨⟨I.n8,I.ax,by rw[cP];exact I.c8,by rw[cP];exact I.aO,by rw[cP];exact I.aq,fun r' h=>?_,I.JZ,I.aS,I.bM,I.ar,I.q,by rw[cP];exact I.loc,I.lock,I.cK,I.bY,I.bA,I.EJ,I.look,I.claim,I.pE,I.served,I.st,I.jn,I.pg,I.rf⟩,rfl,rfl,rfl,rfl,rfl,cP⟩;simp only[Wd.dZ]at h;rcases List.mem_or_eq_of_mem_set h with h|h
 ·exact I.au r' h
 ·rw[h];exact hr
theorem Ku(I:Inv w ls)(hx:w.gs[g]?=some x)(hp:x.ae=8∨x.ae=27∨x.ae=22∨x.ae=23∨x.ae=32){c:Int}(h:aL x c):1≤c∧c≤w.au.length:=by
 have L:=I.loc g x hx;by_cases hk:(aP x).ai=9
 ·unfold aL at h;rw[aF hk]at h;exact(L.oW hk (by omega) (by omega) (by omega) (by omega)).1.lk c (List.mem_of_mem_take h)
 ·unfold aL at h;rw[aE hk]at h;rw[h.2];exact L.cZ hk (by omega) (by omega) (by omega) (by omega)
theorem Inv.Pg(I:Inv w ls)(hx:w.gs[g]?=some x)(hs:ea w g)(hc:aT x)(oO:¬aW x)(rl:∀sd,¬eV x sd)(ON:x.br=s):∃(z:Nat) (sd:gn) (y:bI) (q':bf),fZ w s=some {w with aw:=q'}∧w.ah[s]?=some sd∧sd.g=z∧z≠g∧w.gs[z]?=some y∧aL x sd.ch∧∀(W:Wd),(W=({w with aw:=q'}:Wd)∨∃c r,r.Ok∧W=({w with aw:=q'}:Wd).dZ c r)→∀sd',uW sd' sd→∀xA:bI,(xA.ae=16∨xA.ae=22∨xA.ae=30∧xA.res.aJ=1)→¬aW xA→xA.ops=x.ops→xA.at_=x.at_→xA.bY=x.bY→xA.bA=x.bA→xA.wakes=x.wakes→xA.aN=x.aN→Loc w.au.length xA→(∀c,aL xA c↔aL x c)→Inv (((W.cJ s sd').ay z {y with aN:=s}).ay g {xA with wakes:=x.wakes++[(z:Int)]}) (iA ls s)∧bK w (((W.cJ s sd').ay z {y with aN:=s}).ay g {xA with wakes:=x.wakes++[(z:Int)]}):=by
 obtain⟨s0,z,sd,y,h1,h2,h3,h4,h5,h6,h7,h8,h9,ph,rA,uQ,uu⟩:=I.claim g x hx hc;obtain rfl:s0=s:=by omega
 have Nh:x.ae=8∨x.ae=27:=hc;have mj:s0<w.ah.length:=cA h2;obtain⟨q',d1,d2,d3⟩:=I.B8 mj (wm I hx (fun h=>by unfold bm at h;omega) h2 uu (Ku I hx (by omega) uu));refine⟨z,sd,y,q',d1,h2,h4,h5,h6,uu,?_⟩;intro W hW sd' FH xA hpA tY e0 e1 e2 e3 e4 e5 hL hh
 have hWI:Inv W (iA ls s0)∧bK w W∧W.gs=w.gs∧W.ah=w.ah∧W.ax=w.ax:=by
  rcases hW with rfl|⟨c,r,hr,rfl⟩
  ·exact⟨d2,⟨rfl,rfl,rfl,rfl,rfl,rfl⟩,rfl,rfl,rfl⟩
  ·obtain⟨a,b⟩:=d2.Pf c hr;exact⟨a,(show bK w {w with aw:=q'}from⟨rfl,rfl,rfl,rfl,rfl,rfl⟩).trans b,rfl,rfl,rfl⟩
 obtain⟨IW,KW,eg,es,eb⟩:=hWI;have h2W:W.ah[s0]?=some sd:=by rw[es];exact h2
 have I1:=IW.ZG h2W FH;have eE:(W.cJ s0 sd').gs[g]?=some x:=by show W.gs[g]?=_;rw[eg];exact hx
 have rh:ea (W.cJ s0 sd') g:=by unfold ea;show ∃t,W.ax[g]?=_;rw[eb];exact hs
 have Ph:¬aT xA:=fun h=>by unfold aT at h;omega
 have SV:¬bm xA:=fun h=>by unfold bm at h;omega
 obtain⟨I2,K2⟩:=I1.ku eE rh (wu (oM e0 e1) oO tY rl Ph SV e2 e3 e4 e5) ⟨fun h=>by omega,by omega⟩ (by show Loc W.au.length xA;rw[KW.au];exact hL) hh e0;have ZR:((W.cJ s0 sd').ay g xA).gs[g]?=some xA:=di _ eE;have hyA:((W.cJ s0 sd').ay g xA).gs[z]?=some y:=by show(W.gs.set g xA)[z]?=_;rw[gd _ h5,eg];exact h6
 have FI:((W.cJ s0 sd').ay g xA).ah[s0]?=some sd':=qN _ h2W
 have Ft:∀(j:Nat) u (s':Nat) AU,((W.cJ s0 sd').ay g xA).gs[j]?=some u→aT u→u.br=s'→((W.cJ s0 sd').ay g xA).ah[s']?=some AU→AU.g≠z:=by
  intro j u s' AU hu G9 SR vz hg;have Wu:(W.gs.set g xA)[j]?=some u:=hu;rcases cX (by rw[eg];exact hx) Wu with⟨_,h⟩|⟨cM,Nw⟩
  ·subst h;exact Ph G9
  ·rw[eg]at Nw
   have OT:∃ZK,w.ah[s']?=some ZK∧ZK.g=AU.g:=by
    have Pj:(W.ah.set s0 sd')[s']?=some AU:=vz;rcases Di h2W Pj with⟨rfl,rfl⟩|⟨_,h⟩
    ·exact⟨sd,h2,FH.2.1.symm⟩
    ·exact⟨AU,by rw[←es];exact h,rfl⟩
   obtain⟨ZK,b1,b2⟩:=OT;exact cM (I.pE j u g x s' s0 ZK sd Nw G9 hx hc SR ON b1 h2 (by omega))
 obtain⟨I3,K3⟩:=I2.OX ZR hpA tY hyA h8 h9 Ft FI (FH.1.trans h3) (FH.2.1.trans h4) (FH.owns.2 h7) (ph.trans FH.2.2.2.1.symm) rA d3;have K:=KW.trans ((show bK W (W.cJ s0 sd')from⟨rfl,rfl,rfl,rfl,rfl,rfl⟩).trans (K2.trans K3));have e:((((W.cJ s0 sd').ay g xA).ay z {y with aN:=s0}).ay g {xA with wakes:=xA.wakes++[(z:Int)]})=(((W.cJ s0 sd').ay z {y with aN:=s0}).ay g {xA with wakes:=x.wakes++[(z:Int)]}):=by rw[e4,sR _ (dE h5),cY]
 rw[e]at I3 K;exact⟨I3,K⟩
theorem Dq(I:Inv w ls)(hx:w.gs[g]?=some x)(hs:ea w g)(hk:(aP x).ai=2∨(aP x).ai=4)(hp:x.ae=8)(v:Int):∃w' fM,lp w g v=some w'∧Inv w' fM∧bK w w':=by
 have L:=I.loc g x hx;have oO:¬aW x:=uy (by omega);obtain⟨s,ON⟩:=pz (L.br (.inl (.inl hp)));obtain⟨z,sd,y,q',d1,d2,d3,d4,d5,d6,F⟩:=I.Pg hx hs (.inl hp) oO (Ca (by omega)) ON;obtain⟨m2,m3⟩:=M.p8 L (by omega) hp (bZ 1) rfl;have F:=F _ (.inl rfl) {sd with v:=v,done:=true} ⟨rfl,rfl,rfl,rfl,rfl⟩ {x with res:=bZ 1,br:= -1,ae:=16} (.inl rfl) (uy (by simp)) rfl rfl rfl rfl rfl rfl m2 m3;have hn:nat? x.br=some s:=by rw[ON];exact eQ s
 unfold lp;simp only[hx,hn,d1,d2,bW,eN];rw[sh (w:=({w with aw:=q'}:Wd).cJ s {sd with v:=v}) (z:=z) (y:=y) (sd:={sd with v:=v}) hx (qN _ d2) d3 d5 d4 (by have:=I.sj hx;omega)];simp only[eN];rw[qK (x:={x with wakes:=x.wakes++[(z:Int)],br:= -1}) (di (x:=x) _ (by show(w.gs.set z _)[g]?=_;rw[gd _ (dE d4)];exact hx))];refine⟨_,iA ls s,rfl,?_⟩;rw[cY];have e:((({w with aw:=q'}:Wd).cJ s {sd with v:=v}).cJ s {sd with v:=v,done:=true})=({w with aw:=q'}:Wd).cJ s {sd with v:=v,done:=true}:=by unfold Wd.cJ;simp only[my]
 rw[e];exact F
theorem Dr(I:Inv w ls)(hx:w.gs[g]?=some x)(hs:ea w g)(hk:(aP x).ai=3∨(aP x).ai=5)(hp:x.ae=8):∃w' fM,pZ w g (aP x).ch=some w'∧Inv w' fM∧bK w w':=by
 have L:=I.loc g x hx;have oO:¬aW x:=uy (by omega);obtain⟨s,ON⟩:=pz (L.br (.inl (.inl hp)));obtain⟨z,sd,y,q',d1,d2,d3,d4,d5,d6,F⟩:=I.Pg hx hs (.inl hp) oO (Ca (by omega)) ON;have hn:nat? x.br=some s:=by rw[ON];exact eQ s
 have hc:=L.cZ (by omega) (by omega) (by omega) (by omega) (by omega);obtain⟨hm,r,hr,ok⟩:=gz I hc
 have hR:∃w2 v,ik ({w with aw:=q'}:Wd) (aP x).ch s=some (w2,v)∧(w2=({w with aw:=q'}:Wd)∨∃c r,r.Ok∧w2=({w with aw:=q'}:Wd).dZ c r):=by
  have Ht:cZ ({w with aw:=q'}:Wd) (aP x).ch=true:=hm;have hT:kq ({w with aw:=q'}:Wd) (aP x).ch=some (((aP x).ch-1).toNat,r):=hr;unfold ik;simp only[Ht,hT,d2,m8,dF,bW,eN];by_cases h0:r.room=0
  ·rw[aF h0];exact⟨_,_,rfl,.inl rfl⟩
  ·rw[aE h0];exact⟨_,_,rfl,.inr ⟨_,_,Ring.Kg ok _,rfl⟩⟩
 obtain⟨W,v,jk,nt⟩:=hR;obtain⟨m2,m3⟩:=M.p8 L (by omega) hp {aJ:=1,case:= -1,v:=v,ok:=true} rfl;have F:=F W nt {sd with done:=true} ⟨rfl,rfl,rfl,rfl,rfl⟩ {x with res:={aJ:=1,case:= -1,v:=v,ok:=true},br:= -1,ae:=16} (.inl rfl) (uy (by simp)) rfl rfl rfl rfl rfl rfl m2 m3;have zd:W.gs=w.gs∧W.ah=w.ah:=by rcases nt with rfl|⟨c,r,_,rfl⟩<;>exact⟨rfl,rfl⟩
 unfold pZ;simp only[hx,hn,d1,jk,bW,eN];rw[sh (w:=W) (z:=z) (y:=y) (sd:=sd) (x:=x) (by rw[zd.1];exact hx) (by rw[zd.2];exact d2) d3 (by rw[zd.1];exact d5) d4 (by have:=I.sj hx;omega)];simp only[eN];rw[qK (x:={x with wakes:=x.wakes++[(z:Int)],br:= -1}) (di (x:=x) _ (by show(W.gs.set z _)[g]?=_;rw[gd _ (dE d4),zd.1];exact hx))];refine⟨_,iA ls s,rfl,?_⟩;rw[cY];exact F
end
section
variable{w w' w2:Wd}{ls:List (List Nat)}{g z s:Nat}{x x' xA y:bI}{sd:gn}
theorem Inv.ZS{k:Nat}{l:List Nat}{b:Bool}(I:Inv w ls)(hx:w.gs[g]?=some x)(hs:ea w g)(oO:¬aW x)(rl:∀sd,¬eV x sd)(hl:ls[k]?=some l)(hm:s∈l)(h1:w.ah[s]?=some sd)(h2:sd.cK=true)(h3:sd.g=z)(hy:w.gs[z]?=some y)(ho:eP y s sd)(hw:aW y)(hp:y.aN= -1)(B9:(aP y).ai=9→y.bk=false)(ZP:(aP y).ai=9→b=true)(Hy:(aP y).ai≠9→b=y.bk)(bO:aL x sd.ch)(YX:1≤sd.ch∧sd.ch≤w.au.length)(hpA:xA.ae=22)(e0:xA.ops=x.ops)(e1:xA.at_=x.at_)(e2:xA.bY=x.bY)(e3:xA.bA=x.bA)(e4:xA.wakes=x.wakes)(e5:xA.aN=x.aN)(hL:Loc w.au.length xA)(hh:∀c,aL xA c↔aL x c):∃q',fZ w s=some {w with aw:=q'}∧z≠g∧Inv (((({w with aw:=q'}:Wd).cJ s {sd with done:=false}).ay z {y with point:=w.av,fire:=sd.case,bk:=b,aN:=s}).ay g {xA with wakes:=x.wakes++[(z:Int)]}) (iA ls s)∧bK w (((({w with aw:=q'}:Wd).cJ s {sd with done:=false}).ay z {y with point:=w.av,fire:=sd.case,bk:=b,aN:=s}).ay g {xA with wakes:=x.wakes++[(z:Int)]}):=by
 have mh:z≠g:=by rintro rfl;rw[hx]at hy;cases hy;exact oO hw
 have Ph:¬aT xA:=fun h=>by unfold aT at h;omega
 have SV:¬bm xA:=fun h=>by unfold bm at h;omega
 have tY:¬aW xA:=uy (by omega);have mj:s<w.ah.length:=cA h1;have ZT:=I.wj hl hm h1 h3 hy B9;obtain⟨I1,K1⟩:=I.ku hx hs (wu (oM e0 e1) oO tY rl Ph SV e2 e3 e4 e5) ⟨fun h=>by omega,by omega⟩ hL hh e0;have eE:(w.ay g xA).gs[g]?=some xA:=di _ hx;obtain⟨q',d1,d2,d3⟩:=I1.B8 mj (wm I1 eE SV h1 ((hh _).2 bO) YX);have FH:uW {sd with done:=false} sd:=⟨rfl,rfl,rfl,rfl,rfl⟩;have I3:=d2.ZG (s:=s) (sd:=sd) (sd':={sd with done:=false}) h1 FH;have ZU:(({(w.ay g xA)with aw:=q'}:Wd).cJ s {sd with done:=false}).gs[z]?=some y:=by show(w.gs.set g xA)[z]?=_;rw[gd _ mh];exact hy
 have hf:(aP y).ai≠9→sd.case= -1:=fun hk=>by
  rcases ho with⟨_,_,h,_⟩|⟨h,_⟩
  ·exact h
  ·exact aX h hk
 have Ft:∀(j:Nat) u (s':Nat) AU,(({(w.ay g xA)with aw:=q'}:Wd).cJ s {sd with done:=false}).gs[j]?=some u→aT u→u.br=s'→(({(w.ay g xA)with aw:=q'}:Wd).cJ s {sd with done:=false}).ah[s']?=some AU→AU.g≠z:=by
  intro j u s' AU hu G9 SR vz;have Wu:(w.gs.set g xA)[j]?=some u:=hu;rcases cX hx Wu with⟨_,h⟩|⟨cM,Nw⟩
  ·subst h;exact aX G9 Ph
  ·have Pj:(w.ah.set s {sd with done:=false})[s']?=some AU:=vz;rcases Di h1 Pj with⟨rfl,rfl⟩|⟨_,h⟩
   ·exact ZT j u s' sd Nw G9 SR h1
   ·exact ZT j u s' AU Nw G9 SR h
 obtain⟨I4,K4⟩:=I3.UY ZU hw hp Ft w.av y.bF sd.case b hf Hy;have vB:((({(w.ay g xA)with aw:=q'}:Wd).cJ s {sd with done:=false}).ay z {y with point:=w.av,bF:=y.bF,fire:=sd.case,bk:=b}).gs[g]?=some xA:=by show((w.gs.set g xA).set z _)[g]?=_;rw[gd _ (dE mh)];exact eE
 have hy4:((({(w.ay g xA)with aw:=q'}:Wd).cJ s {sd with done:=false}).ay z {y with point:=w.av,bF:=y.bF,fire:=sd.case,bk:=b}).gs[z]?=some {y with point:=w.av,bF:=y.bF,fire:=sd.case,bk:=b}:=di _ ZU
 have ap7:∀(j:Nat) u (s':Nat) AU,((({(w.ay g xA)with aw:=q'}:Wd).cJ s {sd with done:=false}).ay z {y with point:=w.av,bF:=y.bF,fire:=sd.case,bk:=b}).gs[j]?=some u→aT u→u.br=s'→((({(w.ay g xA)with aw:=q'}:Wd).cJ s {sd with done:=false}).ay z {y with point:=w.av,bF:=y.bF,fire:=sd.case,bk:=b}).ah[s']?=some AU→AU.g≠z:=by
  intro j u s' AU hu G9 SR vz;have Wu:((w.gs.set g xA).set z {y with point:=w.av,bF:=y.bF,fire:=sd.case,bk:=b})[j]?=some u:=hu;rcases cX (show(w.gs.set g xA)[z]?=some y from ZU) Wu with⟨_,h⟩|⟨cM,Nw⟩
  ·subst h;exact aX G9 (xZ (iB hw)).1
  ·exact Ft j u s' AU Nw G9 SR vz
 obtain⟨I5,K5⟩:=I4.OX vB (.inr (.inl hpA)) tY hy4 hw hp ap7 (qN _ h1) h2 h3 ho rfl ZP d3
 have e:((((({(w.ay g xA)with aw:=q'}:Wd).cJ s {sd with done:=false}).ay z {y with point:=w.av,bF:=y.bF,fire:=sd.case,bk:=b}).ay z {y with point:=w.av,bF:=y.bF,fire:=sd.case,bk:=b,aN:=s}).ay g {xA with wakes:=xA.wakes++[(z:Int)]})=
   (((({w with aw:=q'}:Wd).cJ s {sd with done:=false}).ay z {y with point:=w.av,fire:=sd.case,bk:=b,aN:=s}).ay g {xA with wakes:=x.wakes++[(z:Int)]}):=by
  rw[e4,cY];show((((({w with aw:=q'}:Wd).cJ s {sd with done:=false}).ay g xA).ay z _).ay g _)=_;rw[sR _ (dE mh),cY]
 rw[e]at I5;have K:=K1.trans ((show bK (w.ay g xA) (({(w.ay g xA)with aw:=q'}:Wd).cJ s {sd with done:=false})from⟨rfl,rfl,rfl,rfl,rfl,rfl⟩).trans (K4.trans K5));rw[e]at K;exact⟨q',ky (w2:=w) d1 rfl,mh,I5,K⟩
theorem Kv{q':bf}(hx:w.gs[g]?=some x)(hh:x.br=s)(hd:fZ w s=some {w with aw:=q'})(h1:w.ah[s]?=some sd)(h3:sd.g=z)(hy:w.gs[z]?=some y)(mh:z≠g)(V5:x.wakes.length<1000000):yo w g=some (((({w with aw:=q'}:Wd).cJ s {sd with done:=false}).ay z {y with point:=w.av,fire:=sd.case,aN:=s}).ay g {x with t:=w.av,wakes:=x.wakes++[(z:Int)],br:= -1}):=by
 have hn:nat? x.br=some s:=by rw[hh];exact eQ s
 unfold yo;simp only[hx,hn,bW,eN];rw[ky (w2:=w.ay g {x with t:=w.av}) hd rfl];simp only[eN];have Vq:({(w.ay g {x with t:=w.av})with aw:=q'}:Wd).ah[s]?=some sd:=h1;have uO:({(w.ay g {x with t:=w.av})with aw:=q'}:Wd).gs[z]?=some y:=by show(w.gs.set g _)[z]?=_;rw[gd _ mh];exact hy
 simp only[Vq,h3,eQ,uO,eN];rw[aE mh]
 refine(sh (w:=({(w.ay g {x with t:=w.av})with aw:=q'}:Wd).ay z {y with point:=w.av,fire:=sd.case}) (x:={x with t:=w.av}) (y:={y with point:=w.av,fire:=sd.case}) (z:=z) (sd:=sd)
  (by show((w.gs.set g _).set z _)[g]?=_;rw[gd _ (dE mh)];exact di _ hx) Vq h3 (di (x:=y) _ uO) mh V5 false).trans ?_
 congr 1;show((((({w with aw:=q'}:Wd).cJ s {sd with done:=false}).ay g {x with t:=w.av}).ay z {y with point:=w.av,fire:=sd.case}).ay z {y with point:=w.av,fire:=sd.case,aN:=s}).ay g _=_;rw[cY,sR _ (dE mh),cY,h3];try rfl
theorem L8(I:Inv w ls)(hx:w.gs[g]?=some x)(hs:ea w g)(hk:(aP x).ai=6)(hp:x.ae=22):∃w' fM,qt w g (aP x).ch=some w'∧Inv w' fM∧bK w w':=by
 have L:=I.loc g x hx;have hc:=L.cZ (by omega) (by omega) (by omega) (by omega) (by omega);have hh:aL x (aP x).ch:=by unfold aL cH;rw[aE (by omega)];exact⟨by omega,rfl⟩
 have oO:¬aW x:=uy (by omega);have rl:∀sd,¬eV x sd:=Ca (by omega);have hc8:=I.c8
 have Wv:(sK w (aP x).ch).2=false∨∃kk:Int,(kk=2*(aP x).ch-2∨kk=2*(aP x).ch-1)∧sK w (aP x).ch=w.aw.first kk∧(w.aw.first kk).2=true:=by
  unfold sK;by_cases h1:(w.aw.first (2*(aP x).ch-2)).2=true
  ·rw[aF h1];exact .inr ⟨_,.inl rfl,rfl,h1⟩
  ·rw[aE h1]
   cases h2:(w.aw.first (2*(aP x).ch-1)).2 with
   |false=>exact .inl rfl
   |true=>exact .inr ⟨_,.inr rfl,rfl,h2⟩
 unfold qt;rcases Wv with hf|⟨kk,kE,hf,hf2⟩
 ·simp only[hx,hf,dt,bW,eN];obtain⟨m1,m2,m3⟩:=M.h22 L hk hp;exact⟨_,ls,wa hx 16,I.ku hx hs m1 ⟨by simp,by simp⟩ m2 m3 rfl⟩
 ·rcases Kr I (kk:=kk) (by omega)with h|⟨s,z,l,sd,y,h1,h2,h3,h4,h5,h6,h7,h8,h9,ph⟩
  ·rw[h]at hf2;cases hf2
  ·have bO:=Ks kE ph;rw[hf,h1];simp only[hx,h4,eQ,m8,dF,bW,eN];by_cases lR:0≤sd.case
   ·rw[aF lR];obtain⟨m2,m3⟩:=M.ao4 L hk hp s;exact⟨_,ls,rfl,I.Pe hx hs h2 h3 h4 lR (.inr (.inr rfl)) rfl (by rw[bO];exact(m3 _).2 hh) oO rl rfl rfl rfl rfl rfl rfl m2 m3⟩
   ·rw[aE lR]
    have jA:(aP y).ai≠9:=by
     rcases h8 with h|⟨_,h,_⟩
     ·exact h.1
     ·exact aX h lR
    have oF:sd.case= -1:=by
     rcases h8 with⟨_,_,h,_⟩|⟨h,_⟩
     ·exact h
     ·exact aX h jA
    rw[aF oF]
    have SS:aW y∧y.aN= -1:=by
     rcases h9 with⟨a,b,c⟩|⟨a,_⟩
     ·exact⟨.inl ⟨a,b⟩,c⟩
     ·exact aX a jA
    obtain⟨m2,m3⟩:=M.ao5 L hk hp w.av;obtain⟨q',d1,d2,d3,d4⟩:=I.ZS (xA:={x with br:= -1,t:=w.av,ae:=22}) (b:=y.bk) hx hs oO rl h2 h3 h4 h5 h6 h7 h8 SS.1 SS.2 (fun h=>aX h jA) (fun h=>aX h jA) (fun _=>rfl) (by rw[bO];exact hh) (by rw[bO];exact hc) rfl rfl rfl rfl rfl rfl rfl m2 m3;have eE:(w.ay g {x with br:=s}).gs[g]?=some {x with br:=s}:=di _ hx;rw[Kv (q':=q') (sd:=sd) (z:=z) (y:=y) eE rfl (ky d1 rfl) h4 h6 (by show(w.gs.set g _)[z]?=_;rw[gd _ d2];exact h7) d2 (by have:=I.sj hx;simp only;omega)];refine⟨_,iA ls s,rfl,?_⟩
    have e:(((({(w.ay g {x with br:=s})with aw:=q'}:Wd).cJ s {sd with done:=false}).ay z {y with point:=w.av,fire:=sd.case,aN:=s}).ay g {x with br:= -1,t:=w.av,wakes:=x.wakes++[(z:Int)]})=
      (((({w with aw:=q'}:Wd).cJ s {sd with done:=false}).ay z {y with point:=w.av,fire:=sd.case,bk:=y.bk,aN:=s}).ay g {x with br:= -1,t:=w.av,ae:=22,wakes:=x.wakes++[(z:Int)]}):=by
     rw[←hp];show(((({w with aw:=q'}:Wd).cJ s {sd with done:=false}).ay g {x with br:=s}).ay z _).ay g _=_;rw[sR _ (dE d2),cY]
    exact⟨e▸d3,e▸d4⟩
theorem Dt(I:Inv w ls)(hx:w.gs[g]?=some x)(hs:ea w g)(hk:(aP x).ai=6)(hp:x.ae=23):∃w' fM,ly w g=some w'∧Inv w' fM∧bK w w':=by
 have L:=I.loc g x hx;have oO:¬aW x:=uy (by omega);have rl:∀sd,¬eV x sd:=Ca (by omega);obtain⟨s,k,l,sd,a1,a2,a3,a4,a5,a6⟩:=I.look g x hx (.inr (.inr hp));obtain⟨sd',z,y,b1,b2,b3,b4,b5,b6,b7⟩:=I.EJ k l s a2 a3;rw[a4]at b1;cases b1;have mh:z≠g:=by rintro rfl;rw[hx]at b4;cases b4;exact rl sd b6
 have oz:(aP y).ai=9:=by
  rcases b5 with⟨_,_,h,_⟩|⟨h,_⟩
  ·omega
  ·exact h
 have U1:=I.loc z y b4;have SU:=Ku I hx (by omega) a6;have mj:s<w.ah.length:=cA a4;have hn:nat? x.br=some s:=by rw[a1];exact eQ s
 unfold ly;simp only[hx,hn,eQ,a4,b3,b4,bW,eN];rw[aE mh]
 cases B9:y.bk with
 |true=>
  simp only[dt];obtain⟨m2,m3⟩:=M.ao6 L hk hp;have F:=I.ku hx hs (x':={x with br:= -1,ae:=22}) (wu rfl oO (uy (by simp)) rl (fun h=>by unfold aT at h;simp at h) (fun h=>by unfold bm at h;simp at h) rfl rfl rfl rfl) ⟨by simp,by simp⟩ m2 m3 rfl;have eE:(w.ay g {x with br:= -1,ae:=22}).gs[g]?=some {x with br:= -1,ae:=22}:=di _ hx;obtain⟨q',d1,d2,d3⟩:=F.1.B8 mj (wm F.1 eE (fun h=>by unfold bm at h;simp at h) a4 ((m3 _).2 a6) SU);rw[ky (w2:=w) d1 rfl];exact⟨_,_,rfl,d2,⟨dW hx rfl,rfl,rfl,rfl,rfl,rfl⟩⟩
 |false=>
  simp only[nW,dF]
  have hw:aW y∧y.aN= -1:=by
   have hn:¬(y.ae=31∨y.ae=32):=fun h=>by have:=(U1.bk oz).2 h;rw[B9]at this;cases this
   have ZQ:aW y:=by
    rcases b6 with⟨h,_⟩|⟨_,h⟩
    ·exact aX oz h
    ·right;refine⟨oz,?_⟩;rcases h with⟨h,_⟩|h|h|h|⟨h,_⟩|⟨h,_⟩
     ·exact .inl h
     ·exact .inr (.inl h)
     ·exact .inr (.inr (.inl h))
     ·exact .inr (.inr (.inr h))
     ·exact aX (.inl h) hn
     ·exact aX (.inr h) hn
   refine⟨ZQ,?_⟩;have h1:=U1.aN.1;by_cases h2:0≤y.aN
   ·have:=(U1.bk oz).1 ZQ h2;rw[B9]at this;cases this
   ·omega
  obtain⟨m2,m3⟩:=M.ao7 L hk hp w.av;obtain⟨q',d1,d2,d3,d4⟩:=I.ZS (xA:={x with br:= -1,t:=w.av,ae:=22}) (b:=true) hx hs oO rl a2 a3 a4 b2 b3 b4 b5 hw.1 hw.2 (fun _=>B9) (fun _=>rfl) (fun h=>aX oz h) a6 SU rfl rfl rfl rfl rfl rfl rfl m2 m3;have eE:(w.ay z {y with bk:=true}).gs[g]?=some x:=by show(w.gs.set z _)[g]?=_;rw[gd _ (dE mh)];exact hx
  rw[Kv (q':=q') (sd:=sd) (z:=z) (y:={y with bk:=true}) eE a1 (ky d1 rfl) a4 b3 (di _ b4) mh (by have:=I.sj hx;omega)];simp only[eN];rw[wa (x:={x with t:=w.av,wakes:=x.wakes++[(z:Int)],br:= -1}) (di (x:=x) _ (by show((w.gs.set z _).set z _)[g]?=_;rw[gd _ (dE mh),gd _ (dE mh)];exact hx))];refine⟨_,iA ls s,rfl,?_⟩
  have e:((((({(w.ay z {y with bk:=true})with aw:=q'}:Wd).cJ s {sd with done:=false}).ay z {y with bk:=true,point:=w.av,fire:=sd.case,aN:=s}).ay g {x with t:=w.av,wakes:=x.wakes++[(z:Int)],br:= -1}).ay g {x with t:=w.av,wakes:=x.wakes++[(z:Int)],br:= -1,ae:=22})=
    (((({w with aw:=q'}:Wd).cJ s {sd with done:=false}).ay z {y with point:=w.av,fire:=sd.case,bk:=true,aN:=s}).ay g {x with br:= -1,t:=w.av,ae:=22,wakes:=x.wakes++[(z:Int)]}):=by
   rw[cY];show(((({w with aw:=q'}:Wd).cJ s {sd with done:=false}).ay z _).ay z _).ay g _=_;rw[cY]
  exact⟨e▸d3,e▸d4⟩
theorem Inv.ZV(I:Inv w ls)(hg:g<w.gs.length)(eK:(w.ar.take g).2.2=true)(sd':gn):∃(j:Nat) (Nf:gn),(w.ar.take g).2.1=j∧w.ah[j]?=some Nf∧Inv ({w.cJ j sd' with ar:=(w.ar.take g).1}:Wd) ls∧(∀(i:Nat) u,w.gs[i]?=some u→∀sd,w.ah[j]?=some sd→sd.cK=true→False):=by
 obtain⟨j,h1,h2,h3,h4,h5,h6⟩:=(we I.ar hg).1 eK;obtain⟨Nf,eo⟩:∃Nf,w.ah[j]?=some Nf:=⟨_,fv h2⟩;have RE:∀sd,w.ah[j]?=some sd→sd.cK=true→False:=fun sd hs hl=>by have:=I.cK j sd hs hl;rw[h3]at this;cases this
 exact⟨j,Nf,h1,eo,I.Wk eo (fun hl=>aX hl (fun h=>RE Nf eo h)) h6 h5 (fun _=>h4),fun i u hu sd hs hl=>RE sd hs hl⟩
theorem FJ(I:Inv w ls)(hx:w.gs[g]?=some x)(hs:ea w g)(hk:(aP x).ai=2∨(aP x).ai=3)(hp:x.ae=10)(sd':gn)(h1:sd'.cK=true)(h2:sd'.g=g)(h3:sd'.case= -1)(h4:sd'.ch=(aP x).ch)(h5:sd'.cF=decide ((aP x).ai=2)):∃w',rE w g sd'=some w'∧Inv w' ls∧bK w w':=by
 have L:=I.loc g x hx;have hg:g<w.gs.length:=cA hx;have oN:¬aW x:=uy (by omega);have oo:=L.yC (by omega);unfold rE;simp only[hx,bW,eN]
 cases eK:(w.ar.take g).2.2 with
 |true=>
  obtain⟨j,Nf,e1,e2,I1,_⟩:=I.ZV hg eK sd';simp only[dt,e1,eQ,e2,eN];obtain⟨m2,m3⟩:=M.p10 L hk hp j;refine⟨_,rfl,?_⟩;have eE:({w.cJ j sd' with ar:=(w.ar.take g).1}:Wd).gs[g]?=some x:=hx;have W:=I1.jU (x':={x with bY:=(j:Int),ae:=11}) eE (List.Sublist.refl _)
  have I2:Inv (({w.cJ j sd' with ar:=(w.ar.take g).1}:Wd).ay g {x with bY:=(j:Int),ae:=11}) ls:=
   I1.mn eE m2 (fun k l s sd _ _ _ _ a c=>aX c (Ca (by omega) sd)) (fun s h=>by
     simp only at h;obtain rfl:s=j:=by omega
     exact⟨sd',qN _ e2,h1,h2,.inl ⟨by show(aP x).ai≠9;omega,rfl,h3,h4,h5⟩⟩) (fun i s h=>by simp only[oo]at h;simp at h) (fun j u s sd _ _ _ _ _ _ a b _ _ _=>aX b oN) (fun h=>by unfold aT at h;simp at h) (fun h=>by unfold bm at h;simp at h)
    (fun s h=>by have:=L.aN.2 oN;simp only at h;omega) W.1 W.2 rfl rfl rfl I1.au rfl rfl (I1.lock.same eE m3) rfl rfl rfl (I1.st.same eE hs (fun h=>aX h oN) rfl (by simp) (by simp)) (I1.jn.same eE (fun h=>aX h oN) rfl rfl (by simp))
  exact⟨I2,dW hx rfl,rfl,rfl,rfl,rfl,rfl⟩
 |false=>
  simp only[nW,dF];obtain⟨m1,m2,m3⟩:=M.V1 L hk hp;exact⟨w.ay g {x with res:={x.res with aJ:=6},ae:=16},(by rw[(we I.ar hg).2 eK]),I.ku hx hs m1 ⟨by simp,by simp⟩ m2 m3 rfl⟩
theorem Cd(I:Inv w ls)(hx:w.gs[g]?=some x)(hs:ea w g)(hk:(aP x).ai=2∨(aP x).ai=3)(hp:x.ae=11){kk:Int}(kE:kk=if(aP x).ai=2 then 2*(aP x).ch-1 else 2*(aP x).ch-2):∃w' fM,rF w g kk=some w'∧Inv w' fM∧bK w w':=by
 have L:=I.loc g x hx;have hc:=L.cZ (by omega) (by omega) (by omega) (by omega) (by omega);have hc8:=I.c8;have oN:¬aW x:=uy (by omega);obtain⟨s,hm⟩:=pz (L.bY (by omega) (by omega));obtain⟨sd,h1,h2,h3,h4⟩:=I.bY g x s hx hm;obtain⟨m2,m3⟩:=M.p11 L hk hp w.av;have oE:=L.aN.2 oN;have K:=I.iQ (x':={x with bJ:=w.av,ae:=12}) hx rfl rfl rfl;have W:=I.jU (x':={x with bJ:=w.av,ae:=12}) hx (List.Sublist.refl _)
 have I1:Inv (w.ay g {x with bJ:=w.av,ae:=12}) ls:=
  I.mn hx m2 (fun k l s sd _ _ _ _ a c=>aX c (Ca (by omega) sd)) K.1 K.2.1 (fun j u s sd _ _ _ _ _ _ a b _ _ _=>aX b oN) (fun h=>by unfold aT at h;simp at h) (fun h=>by unfold bm at h;simp at h)
   (fun s h=>by simp only at h;omega) W.1 W.2 rfl rfl rfl I.au rfl rfl (I.lock.same hx m3) rfl rfl rfl (I.st.same hx hs (fun h=>aX h oN) rfl (by simp) (by simp)) (I.jn.same hx (fun h=>aX h oN) rfl rfl (by simp))
 have hq:kk=Lh sd:=by
  rcases h4 with⟨_,_,_,bO,Ar⟩|⟨h,_⟩
  ·unfold Lh;rw[kE,bO,Ar];by_cases h2:(aP x).ai=2
   ·rw[aF h2,aF (by simpa using h2)]
   ·rw[aE h2,aE (by simpa using h2)]
  ·omega
 have hk0:0≤kk∧kk<16:=by rw[kE];split<;>omega
 obtain⟨k,jA⟩:=pz hk0.1;subst jA;have eE:(w.ay g {x with bJ:=w.av,ae:=12}).gs[g]?=some {x with bJ:=w.av,ae:=12}:=di _ hx
 obtain⟨q',l,p1,p2,p3⟩:=I1.UX (s:=s) (k:=k) (g:=g) (sd:=sd) h1 h2 h3 eE h4 (.inl ⟨by show(aP x).ai≠9;omega,.inl rfl,oE⟩) hq (by omega)
  (fun k' l' wi Ht=>by
   obtain⟨AU,g2,x2,b1,b2,b3,b4,b5,b6,_⟩:=I.EJ k' l' s wi Ht;rw[h1]at b1;cases b1;obtain rfl:g2=g:=by omega
   rw[hx]at b4;cases b4;exact Ca (by omega) sd b6)
  (fun _ j u hu G9 SR=>by
   have Wu:(w.gs.set g {x with bJ:=w.av,ae:=12})[j]?=some u:=hu;rcases cX hx Wu with⟨_,h⟩|⟨cM,Nw⟩
   ·subst h;unfold aT at G9;simp at G9
   ·obtain⟨s2,z,AU,y,b1,b2,b3,b4,b5,b6,b7,b8,_⟩:=I.claim j u Nw G9;obtain rfl:s2=s:=by omega
    rw[h1]at b2;cases b2;obtain rfl:z=g:=by omega
    rw[hx]at b6;cases b6;exact oN b8)
 have Kw:lh w k s=some {w with aw:=q'}:=by
  unfold lh at p2 ⊢;show(w.aw.push k s).map _=_;have Nx:(w.aw.push k s).map (fun q=>({(w.ay g {x with bJ:=w.av,ae:=12})with aw:=q.1}:Wd))=some {(w.ay g {x with bJ:=w.av,ae:=12})with aw:=q'}:=p2
  cases hq:w.aw.push k s with
  |none=>rw[hq]at Nx;cases Nx
  |some q=>
   rw[hq]at Nx;simp only[km,oZ,Wd.mk.injEq,true_and,and_true]at Nx ⊢;exact Nx
 have hpm:lh w k x.bY=some {w with aw:=q'}:=by rw[hm];exact Kw
 unfold rF;simp only[hx,hpm,bW,eN];exact⟨_,ls.set k (l++[s]),rfl,p3,dW hx rfl,rfl,rfl,rfl,rfl,rfl⟩
theorem Pk(I:Inv w ls)(hx:w.gs[g]?=some x)(h:gU w.au.length x):x.aq.length≤8:=by
 have:=jy 8 (x.aq.map fun z=>(z-1).toNat) ?_ ?_
 ·rw[ko]at this;exact this
 ·refine List.pairwise_map.2 (h.BD.imp_of_mem fun {a b} ha hb G3 e=>?_);have:=(h.lk a ha).1;have:=(h.lk b hb).1;omega
 ·intro y hy;obtain⟨z,hz,rfl⟩:=List.mem_map.1 hy;have:=h.lk z hz;have:=I.c8;omega
theorem tq(I:Inv w ls)(hx:w.gs[g]?=some x)(rh:gU w.au.length x)(kE:1≤x.k∧x.k≤x.aq.length):∃l,x.aq[(x.k-1).toNat]?=some l∧1≤l∧l≤w.au.length∧ep w g=some ((free w (l-1) g).ay g {x with k:=x.k-1},decide (x.k-1≤0)):=by
 obtain⟨l,hl⟩:∃l,x.aq[(x.k-1).toNat]?=some l:=⟨_,fv (by omega)⟩;have IF:=rh.lk l (lf hl);have ei:idx x.aq (x.k-1)=some l:=by unfold idx;rw[aF (by omega)];exact hl
 have:=Pk I hx rh;have:=I.c8;have Dn:kJ x.k=true:=by unfold kJ;simp;omega
 have okl:kJ l=true:=by unfold kJ;simp;omega
 refine⟨l,hl,IF.1,IF.2,?_⟩;unfold ep;simp only[hx,Dn,ei,okl,bW,eN,m8,dF]
theorem Du(I:Inv w ls)(hx:w.gs[g]?=some x)(hs:ea w g)(hk:(aP x).ai=9)(hp:x.ae=30):∃w',iH w g=some w'∧Inv w' ls∧bK w w':=by
 have L:=I.loc g x hx;obtain⟨s1,s2,s3⟩:=L.oW hk (by omega) (by omega) (by omega) (by omega);have kE:=s2.2.1 (by omega);obtain⟨l,hl,El,pJ,hu⟩:=tq I hx s1 kE
 have hh:aL x l:=by
  apply FE (C:=w.au.length) hk;have e1:bC x=x.k.toNat:=by simp[bC,hp]
  rw[e1];have:x.k.toNat=(x.k-1).toNat+1:=by omega
  rw[this];exact(qj (by omega)).2 (.inr hl)
 have rel:∀{y:bI} {c:Int},(aL x c∧x.aq[(x.k-1).toNat]?≠some c)↔(aL x c∧c≠l):=fun {y c}=>by rw[hl];simp only[ne_eq,oZ];exact and_congr Iff.rfl (not_congr ⟨fun h=>h.symm,fun h=>h.symm⟩)
 unfold iH;simp only[hu,bW,eN];by_cases h1:1<x.k
 ·have hf:decide (x.k-1≤0)=false:=by simp;omega
  rw[hf];simp only[dt];obtain⟨m1,m2,m3⟩:=M.an5 L hk hp h1;obtain⟨a,b⟩:=I.rel hx hs m1 ⟨by simp[hp],by simp[hp]⟩ m2 ⟨El,pJ⟩ (fun d=>(m3 d).trans (rel (y:=x))) rfl hh;exact⟨_,rfl,by rw[a];exact b⟩
 ·have jg:x.k=1:=by omega
  have hf:decide (x.k-1≤0)=true:=by simp;omega
  rw[hf];simp only[m8,dF];have eE:((free w (l-1) g).ay g {x with k:=x.k-1}).gs[g]?=some {x with k:=x.k-1}:=di (x:=x) _ hx;rw[qK eE];rw[cY];have fin:∀(x':bI) (p:Int),(x'={x with k:=x.k-1,ae:=p})→lH x x'→Loc w.au.length x'→(∀c,aL x' c↔aL x c∧x.aq[(x.k-1).toNat]?≠some c)→p≠14→p≠19→Inv ((free w (l-1) g).ay g x') ls∧bK w ((free w (l-1) g).ay g x'):=by intro x' p e m1 m2 m3 Dp h19;subst e;obtain⟨a,b⟩:=I.rel hx hs m1 ⟨fun h=>aX h Dp,h19⟩ m2 ⟨El,pJ⟩ (fun d=>(m3 d).trans (rel (y:=x))) rfl hh;rw[a];exact b
  refine⟨_,rfl,?_⟩;have eA:fG {x with k:=x.k-1}=fG x:=rfl;rw[eA];unfold fG;by_cases hc:x.res.aJ=0
  ·rw[aF hc];obtain⟨m1,m2,m3⟩:=M.an6 L hk hp jg hc;exact fin _ 13 rfl m1 m2 m3 (by omega) (by omega)
  ·rw[aE hc];by_cases ha:x.bA.any (fun s=>s != -1)=true
   ·rw[aF ha];have cM:x.bA≠[]:=(by rintro h;rw[h]at ha;cases ha);obtain⟨m1,m2,m3⟩:=M.an7 L hk hp jg hc cM;exact fin _ 34 rfl m1 m2 m3 (by omega) (by omega)
   ·rw[aE ha]
    have uY:∀s∈x.bA,s= -1:=by
     intro s hs;by_cases h:s= -1
     ·exact h
     ·exact aX (List.any_eq_true.2 ⟨s,hs,by simpa using h⟩) ha
    unfold hJ;by_cases hw:x.wakes=[]
    ·rw[aF hw];obtain⟨m1,m2,m3⟩:=M.ao1 L hk hp jg hc uY hw;exact fin _ 18 rfl m1 m2 m3 (by omega) (by omega)
    ·rw[aE hw];obtain⟨m1,m2,m3⟩:=M.ao0 L hk hp jg hc uY hw;exact fin _ 17 rfl m1 m2 m3 (by omega) (by omega)
theorem Dw(I:Inv w ls)(hx:w.gs[g]?=some x)(hs:ea w g)(hk:(aP x).ai=9)(hp:x.ae=33):∃w1 fin,ep w g=some (w1,fin)∧((fin=false∧Inv w1 ls∧bK w w1)∨(fin=true∧∃w',cD w1 g 34=some w'∧Inv w' ls∧bK w w')):=by
 have L:=I.loc g x hx;obtain⟨s1,s2,s3⟩:=L.oW hk (by omega) (by omega) (by omega) (by omega);have kE:=s2.2.1 (by omega);obtain⟨l,hl,El,pJ,hu⟩:=tq I hx s1 kE
 have hh:aL x l:=by
  apply FE (C:=w.au.length) hk;have e1:bC x=x.k.toNat:=by simp[bC,hp]
  rw[e1];have:x.k.toNat=(x.k-1).toNat+1:=by omega
  rw[this];exact(qj (by omega)).2 (.inr hl)
 have rel:∀{c:Int},(aL x c∧x.aq[(x.k-1).toNat]?≠some c)↔(aL x c∧c≠l):=fun {c}=>by rw[hl];simp only[ne_eq,oZ];exact and_congr Iff.rfl (not_congr ⟨fun h=>h.symm,fun h=>h.symm⟩)
 refine⟨_,_,hu,?_⟩;by_cases h1:1<x.k
 ·left;obtain⟨m1,m2,m3⟩:=M.an8 L hk hp h1;obtain⟨a,b⟩:=I.rel hx hs m1 ⟨by simp[hp],by simp[hp]⟩ m2 ⟨El,pJ⟩ (fun d=>(m3 d).trans rel) rfl hh;exact⟨by simp;omega,by rw[a];exact b⟩
 ·right;have eE:((free w (l-1) g).ay g {x with k:=x.k-1}).gs[g]?=some {x with k:=x.k-1}:=di (x:=x) _ hx;obtain⟨m1,m2,m3⟩:=M.an9 L hk hp (by omega);obtain⟨a,b⟩:=I.rel hx hs m1 ⟨by simp,by simp⟩ m2 ⟨El,pJ⟩ (fun d=>(m3 d).trans rel) rfl hh;refine⟨by simp;omega,_,wa eE 34,?_⟩;rw[cY,a];exact b
theorem wv(hp:x.ae=0∨x.ae=1∨x.ae=4∨x.ae=18∨x.ae=19∨x.ae=20∨x.ae=24∧x.k=0)(c:Int):¬aL x c:=by
 unfold aL;split
 ·have e:bC x=0:=by
   unfold bC;split
   ·rename_i h;have:x.k=0:=by omega
    simp[this]
   ·rw[aE (by omega)]
  rw[e];simp
 ·unfold cH;omega
structure nC(x y:bI):Prop where
 ops:y.ops=x.ops
 at_:y.at_=x.at_
 aN:y.aN= -1
 bY:y.bY= -1
 br:y.br= -1
 bA:y.bA=[]
 wakes:y.wakes=[]
 fire:(aP x).ai≠9∨y.ae=24→y.fire= -1∧y.res.case= -1∧y.bk=false
 oW:y.ae=24→y.point=0∧y.res.aJ=0∧y.k=0
theorem nC.loc{C:Nat}(F:nC x y)(L:Loc C x)(ks:x.at_<x.ops.length)(kM:y.ae=1∨y.ae=4∨y.ae=18∨y.ae=19∨y.ae=20∨y.ae=24)(hk:bG (aP x).ai y.ae=true)(Kx:y.ae=1∨y.ae=4→1≤(aP x).ch∧(aP x).ch≤C)(nL:y.ae=24→gU C y)(iw:(aP x).ai=9→y.ae=18→cV (aP x) C y):Loc C y:=by
 have eg:aP y=aP x:=oM F.ops F.at_
 have oz:(aP x).ai=9→y.ae=18∨y.ae=19∨y.ae=24:=by
  intro h9;rw[h9]at hk;rcases kM with h|h|h|h|h|h
  ·rw[h]at hk;exact aX hk (by decide)
  ·rw[h]at hk;exact aX hk (by decide)
  ·omega
  ·omega
  ·rw[h]at hk;exact aX hk (by decide)
  ·omega
 have oN:¬aW y:=uy (by omega);refine⟨by rw[F.ops,F.at_];exact L.JY,by rw[F.ops];exact L.ops,fun _=>by rw[F.ops,F.at_];exact ks,fun _=>by rw[eg];exact hk,by omega,fun h=>by omega,fun h1 h2 h3 h4 h5=>?_,fun h1 h2 h3 h4 h5=>?_,fun h=>by omega,fun _ _ _ _ _=>F.wakes,fun _ h=>by omega,fun _=>F.bY,fun _=>F.bA,fun _ _ s hs=>(by rw[F.bA]at hs;cases hs),fun h=>?_,⟨by rw[F.aN];omega,fun _=>F.aN⟩,fun h=>F.fire (.inl (by rw[←eg];exact h)),fun h1 h2=>?_,fun h=>by omega,fun _ h=>by omega,fun _=>⟨fun h=>aX h oN,fun h=>by omega⟩,fun h=>by omega,fun h1 h2=>?_,by rw[F.br];omega⟩
 ·rw[eg]at h1 ⊢;rcases kM with h|h|h|h|h|h
  ·exact Kx (.inl h)
  ·exact Kx (.inr h)
  ·exact aX h h3
  ·exact aX h h4
  ·exact aX h h5
  ·rw[h]at hk;have:(aP x).ai=9:=by simpa[bG]using hk
   exact aX this h1
 ·rw[eg]at h1;have XN:y.ae=24:=by have:=oz h1;omega
  have S:=nL XN;obtain⟨f1,f2,f3⟩:=F.oW XN;refine⟨S,⟨fun h=>?_,fun h=>by omega,fun h=>by omega⟩,⟨fun _=>F.bA,fun h=>aX (.inl XN) h,fun i s h=>(by rw[F.bA]at h;simp at h),fun h=>by omega,fun h=>by omega,fun h=>by omega,fun h=>by omega⟩⟩;have:=pd S.Ei;omega
 ·unfold aT bm at h;omega
 ·have XN:y.ae=24:=by omega
  obtain⟨f1,f2,f3⟩:=F.oW XN;obtain⟨f4,f5,f6⟩:=F.fire (.inr XN);exact⟨f6,f1,f4,f5,f2⟩
 ·rw[eg]at h1 ⊢;exact iw h1 (by omega)
theorem Inv.IG(I:Inv w ls)(hx:w.gs[g]?=some x)(hs:ea w g)(hp:x.ae=0)(ks:x.at_<x.ops.length)(F:nC x y)(kM:y.ae=1∨y.ae=4∨y.ae=18∨y.ae=20∨y.ae=24)(hk:bG (aP x).ai y.ae=true)(Kx:y.ae=1∨y.ae=4→1≤(aP x).ch∧(aP x).ch≤w.au.length)(nL:y.ae=24→gU w.au.length y)(iw:(aP x).ai=9→y.ae=18→cV (aP x) w.au.length y):Inv (w.ay g y) ls∧bK w (w.ay g y):=by
 have L:=I.loc g x hx;have B:=L.begin hp;have hL:=F.loc L ks (by omega) hk Kx nL iw
 have hh:∀c,aL y c↔aL x c:=fun c=>⟨fun h=>aX h (wv (by
  rcases kM with h|h|h|h|h
  ·exact .inr (.inl h)
  ·exact .inr (.inr (.inl h))
  ·exact .inr (.inr (.inr (.inl h)))
  ·exact .inr (.inr (.inr (.inr (.inr (.inl h)))))
  ·exact .inr (.inr (.inr (.inr (.inr (.inr ⟨h,(F.oW h).2.2⟩)))))) c),fun h=>aX h (wv (.inl hp) c)⟩
 exact I.ku hx hs (wu (oM F.ops F.at_) (uy (by omega)) (uy (by omega)) (Ca (by omega)) (fun h=>by unfold aT at h;omega) (fun h=>by unfold bm at h;omega) (F.bY.trans B.bY.symm) (F.bA.trans B.bA.symm) (F.wakes.trans B.wakes.symm) (F.aN.trans B.aN.symm)) ⟨fun h=>by omega,by omega⟩ hL hh F.ops
theorem Inv.Pm(I:Inv w ls)(hx:w.gs[g]?=some x)(hs:ea w g)(hp:x.ae=0)(ks:x.at_<x.ops.length)(F:nC x y)(kM:y.ae=19)(hk:bG (aP x).ai y.ae=true):Inv ({w.ay g y with ax:=(tD w.ax g).1}:Wd) ls∧bK w ({w.ay g y with ax:=(tD w.ax g).1}:Wd):=by
 have L:=I.loc g x hx;have B:=L.begin hp;have hL:=F.loc L ks (by omega) hk (fun h=>by omega) (fun h=>by omega) (fun _ h=>by omega);obtain⟨t,hb⟩:=hs;have Em:¬aW x:=uy (by omega);obtain⟨a1,a2,a3,a4,a5,a6,a7⟩:=I.st g x 0 t hx hb
 have ht:t=false:=by
  cases t with
  |false=>rfl
  |true=>exact aX (a3 rfl).1 Em
 subst ht;have M:lH x y:=wu (oM F.ops F.at_) Em (uy (by omega)) (Ca (by omega)) (fun h=>by unfold aT at h;omega) (fun h=>by unfold bm at h;omega) (F.bY.trans B.bY.symm) (F.bA.trans B.bA.symm) (F.wakes.trans B.wakes.symm) (F.aN.trans B.aN.symm);have hh:∀c,aL y c↔aL x c:=fun c=>⟨fun h=>aX h (wv (by omega) c),fun h=>aX h (wv (.inl hp) c)⟩
 have B9:(tD w.ax g).1=w.ax.set g (1,false):=by rw[yb hb];rfl
 refine⟨I.OZ hx M hL hh rfl (by simp only;rw[B9];simp) rfl rfl rfl rfl rfl rfl ?_ ?_,dW hx F.ops,rfl,rfl,rfl,rfl,rfl⟩
 ·simp only;rw[B9];intro j u s t hu ff;rcases SQ hb ff with⟨rfl,e⟩|⟨cM,ff⟩
  ·cases e;rcases cX hx hu with⟨_,rfl⟩|⟨h,_⟩
   ·exact⟨by omega,by omega,fun h=>(by cases h),fun _=> .inr kM,fun _=>rfl,fun h=>by omega,fun h=>by omega⟩
   ·exact aX rfl h
  ·rcases cX hx hu with⟨rfl,_⟩|⟨_,hu⟩
   ·exact aX rfl cM
   ·exact I.st j u s t hu ff
 ·simp only;rw[B9];intro j u z hu hz
  have xq:∃(j0:Nat) (y0:bI),w.gs[j0]?=some y0∧z∈y0.wakes:=by
   rcases cX hx hu with⟨h1,h2⟩|⟨cM,hu⟩
   ·rw[h2,F.wakes]at hz;cases hz
   ·exact⟨j,u,hu,hz⟩
  obtain⟨j0,y0,J2,fV⟩:=xq;obtain⟨i,v,s,h0,h1,h2,h3,h4,h5⟩:=I.jn j0 y0 z J2 fV;have XM:i≠g:=by rintro rfl;rw[hx]at h1;cases h1;exact Em h2
  exact⟨i,v,s,h0,by show(w.gs.set g y)[i]?=_;rw[gd _ XM];exact h1,h2,h3,by rw[bne _ XM];exact h4,h5⟩
theorem Inv.ap8(I:Inv w ls)(hx:w.gs[g]?=some x)(hs:ea w g)(hp:x.ae=0)(ks:(x.ops.length:Int)≤x.at_):Inv ({w with ax:=(Av w.ax g).1}:Wd) ls∧bK w ({w with ax:=(Av w.ax g).1}:Wd):=by
 have L:=I.loc g x hx;obtain⟨t,hb⟩:=hs;have Em:¬aW x:=uy (by omega);have he:(Av w.ax g).1=w.ax.set g (2,false):=by unfold Av;rw[(qm hb).1];simp
 rw[he];refine⟨⟨I.n8,by simp only[kI];exact I.ax,I.c8,I.aO,I.aq,I.au,I.JZ,I.aS,I.bM,I.ar,I.q,I.loc,I.lock,I.cK,I.bY,I.bA,I.EJ,I.look,I.claim,I.pE,I.served,?_,?_,I.pg,I.rf⟩,rfl,rfl,rfl,rfl,rfl,rfl⟩
 ·intro j u s t' hu ff;rcases SQ hb ff with⟨rfl,e⟩|⟨cM,ff⟩
  ·cases e;have Nw:w.gs[j]?=some u:=hu;rw[hx]at Nw;cases Nw;have:=L.JY;exact⟨by omega,by omega,fun h=>(by cases h),fun h=>by omega,fun h=>by omega,fun h=>by omega,fun _=>⟨hp,by omega⟩⟩
  ·exact I.st j u s t' hu ff
 ·intro j u z hu hz;obtain⟨i,v,s,h0,h1,h2,h3,h4,h5⟩:=I.jn j u z hu hz;have XM:i≠g:=by rintro rfl;rw[hx]at h1;cases h1;exact Em h2
  exact⟨i,v,s,h0,h1,h2,h3,(bne _ XM).trans h4,h5⟩
theorem Inv.SW(I:Inv w ls)(hx:w.gs[g]?=some x)(hs:ea w g)(hp:x.ae=18)(F:y={bu {x with at_:=x.at_+1}with ae:=0})(d:List Ex):Inv (({w with done:=d}:Wd).ay g y) ls:=by
 have L:=I.loc g x hx;have Em:¬aW x:=uy (by omega);have ks:=L.Uy (by omega);have h0:=L.JY;have J0:x.wakes=[]:=L.uP (by omega) (by omega) (by omega) (by omega) (by omega);have oE:=L.aN.2 Em;subst F;have oN:¬aW ({bu {x with at_:=x.at_+1}with ae:=0}:bI):=uy (by simp);have hL:Loc w.au.length {bu {x with at_:=x.at_+1}with ae:=0}:=by refine⟨⟨by simp only[bu];omega,by simp only[bu];omega,h0.2.2⟩,L.ops,fun h=>aX rfl h,fun h=>aX rfl h,by simp,fun _=>⟨rfl,rfl,rfl,rfl,rfl,rfl,rfl,rfl,rfl,rfl⟩,fun _ h=>aX rfl h,fun _ h=>aX rfl h,fun h=>by simp at h,fun _ _ _ _ _=>rfl,fun _ h=>by simp at h,fun _=>rfl,fun _=>rfl,fun _ h=>by simp at h,fun h=>?_,⟨by simp[bu],fun _=>rfl⟩,fun _=>⟨rfl,rfl,rfl⟩,fun _ h=>by simp at h,fun h=>by simp at h,fun _ h=>by simp at h,fun _=>⟨fun h=>aX h oN,fun h=>by simp at h⟩,fun h=>by simp at h,fun _ h=>by simp at h,by simp[bu]⟩;unfold aT bm at h;simp at h
 have hh:∀c,aL ({bu {x with at_:=x.at_+1}with ae:=0}:bI) c↔aL x c:=fun c=>⟨fun h=>aX h (wv (.inl rfl) c),fun h=>aX h (wv (by omega) c)⟩
 have eE:({w with done:=d}:Wd).gs[g]?=some x:=hx;have I0:Inv ({w with done:=d}:Wd) ls:=I.same rfl rfl rfl rfl rfl rfl rfl rfl
 exact I0.mn eE hL (fun k l s sd _ _ _ _ a c=>aX c (Ca (by omega) sd)) (fun s h=>by simp only[bu]at h;omega) (fun i s h=>by simp[bu]at h) (fun j u s sd _ _ _ _ _ _ a b _ _ _=>aX b Em) (fun h=>by unfold aT at h;simp at h) (fun h=>by unfold bm at h;simp at h)
  (fun s h=>by simp only[bu]at h;omega) List.nodup_nil (fun j u z _ _ _ h=>by cases h) rfl rfl rfl I0.au rfl rfl (I0.lock.same eE hh) rfl rfl rfl (I0.st.same eE hs (fun h=>aX h Em) oE.symm (by simp) (by simp)) (I0.jn.same eE (fun h=>aX h Em) oE.symm J0.symm (by simp))
end
end Go.Proofs.YtadifmnmfnihdaaGreat.V
namespace Go.Proofs.YtadifmnmfnihdaaGreat
open Go.RowKit Mach Go.Proofs.Tryz
section
variable{af:Nat}{F:Fx}{w w0 w':World}{m m0 m':Mem}{S S':Wd}{L:List (Nat×Obj)}
theorem Pn(R:bz af F w m S)(aG:Good S)(g:Nat)(x:bI)(hx:S.gs[g]?=some x)(ch:Int)(bO:eX ch)(hp:x.ae=1)(hb:iX S ch=some true):Calls prog 106 #[bR F,I g,I ch] w (ee fun w'=>At af F m w m w' (S.ay g {x with ae:=4})):=by
 have eM:=cA hx;have c2:=R.dM;have c3:=R.eu;obtain⟨g2,xV⟩:=R.ef hx 2 _ rfl;obtain⟨g12,xC⟩:=R.ef hx 12 _ rfl;obtain⟨g15,tT⟩:=R.ef hx 15 _ rfl;obtain⟨g16,tU⟩:=R.ef hx 16 _ rfl;obtain⟨g17,tV⟩:=R.ef hx 17 _ rfl;obtain⟨g18,tW⟩:=R.ef hx 18 _ rfl;obtain⟨g19,tX⟩:=R.ef hx 19 _ rfl;obtain⟨aU,cm,aY,aZ⟩:=R.pB;rw[hp]at g2;have A0:=At.refl R;have HX:=ag hx;have HS:=ag (lW R ch bO true hb);have A1:=A0.g HX.out {x with ae:=4} (q:=2) (v:=I 4);have HA:=ag A1;clear A1;clear R aG hx hp hb A0;unfold bR;go_enter func106,ntmps106;go_wp2_with (go_at_call 161;refine HS.out.mono ?_;rintro e w1 ⟨rfl,n,rfl⟩);refine bodyPost_ret (results_none rfl _ _ _) rfl ?_;exact⟨rfl,HA.out.aI⟩
theorem Po(R:bz af F w m S)(aG:Good S)(g:Nat)(x:bI)(hx:S.gs[g]?=some x)(ch:Int)(bO:eX ch)(hp:x.ae=1)(hb:iX S ch=some false):Calls prog 106 #[bR F,I g,I ch] w (ee fun w'=>At af F m w m w' (S.ay g {x with point:=S.av,ae:=2})):=by
 have eM:=cA hx;have c2:=R.dM;have c3:=R.eu;obtain⟨g2,xV⟩:=R.ef hx 2 _ rfl;obtain⟨g12,xC⟩:=R.ef hx 12 _ rfl;obtain⟨g15,tT⟩:=R.ef hx 15 _ rfl;obtain⟨g16,tU⟩:=R.ef hx 16 _ rfl;obtain⟨g17,tV⟩:=R.ef hx 17 _ rfl;obtain⟨g18,tW⟩:=R.ef hx 18 _ rfl;obtain⟨g19,tX⟩:=R.ef hx 19 _ rfl;obtain⟨aU,cm,aY,aZ⟩:=R.pB;rw[hp]at g2;have A0:=At.refl R;have HX:=ag hx;have HS:=ag (lW R ch bO false hb);have A1:=A0.g HX.out {x with point:=S.av} (q:=12) (v:=I S.av);have A2:=A1.g (az HX.out) {x with point:=S.av,ae:=2} (q:=2) (v:=I 2);rw[aA]at A2;have HA:=ag A2;clear A1 A2;clear R aG hx hp hb A0;unfold bR;go_enter func106,ntmps106;go_wp2_with (go_at_call 161;refine HS.out.mono ?_;rintro e w1 ⟨rfl,n,rfl⟩);go_end0;exact⟨rfl,HA.out.aI⟩
theorem Pp(R:bz af F w m S)(aG:Good S)(g:Nat)(x:bI)(hx:S.gs[g]?=some x)(ch:Int)(bO:eX ch)(hp:x.ae=2)(hb:dK S ch=true):Calls prog 106 #[bR F,I g,I ch] w (ee fun w'=>At af F m w m w' (S.ay g {x with ae:=3})):=by
 have eM:=cA hx;have c2:=R.dM;have c3:=R.eu;obtain⟨g2,xV⟩:=R.ef hx 2 _ rfl;obtain⟨g12,xC⟩:=R.ef hx 12 _ rfl;obtain⟨g15,tT⟩:=R.ef hx 15 _ rfl;obtain⟨g16,tU⟩:=R.ef hx 16 _ rfl;obtain⟨g17,tV⟩:=R.ef hx 17 _ rfl;obtain⟨g18,tW⟩:=R.ef hx 18 _ rfl;obtain⟨g19,tX⟩:=R.ef hx 19 _ rfl;obtain⟨aU,cm,aY,aZ⟩:=R.pB;rw[hp]at g2;have A0:=At.refl R;have HX:=ag hx;have HS:=ag (qJ R aG ch bO);rw[hb]at HS;have A1:=A0.g HX.out {x with ae:=3} (q:=2) (v:=I 3);have HA:=ag A1;clear A1;clear R aG hx hp hb A0;unfold bR;go_enter func106,ntmps106;go_wp2_with (go_at_call 162;refine HS.out.mono ?_;rintro e w1 ⟨rfl,rfl⟩);refine bodyPost_ret (results_none rfl _ _ _) rfl ?_;exact⟨rfl,HA.out.aI⟩
theorem Pq(R:bz af F w m S)(aG:Good S)(g:Nat)(x:bI)(hx:S.gs[g]?=some x)(ch:Int)(bO:eX ch)(hp:x.ae=2)(hb:dK S ch=false):Calls prog 106 #[bR F,I g,I ch] w (ee fun w'=>At af F m w m w' (S.ay g {x with res:={x.res with aJ:=2},ae:=18})):=by
 have eM:=cA hx;have c2:=R.dM;have c3:=R.eu;obtain⟨g2,xV⟩:=R.ef hx 2 _ rfl;obtain⟨g12,xC⟩:=R.ef hx 12 _ rfl;obtain⟨g15,tT⟩:=R.ef hx 15 _ rfl;obtain⟨g16,tU⟩:=R.ef hx 16 _ rfl;obtain⟨g17,tV⟩:=R.ef hx 17 _ rfl;obtain⟨g18,tW⟩:=R.ef hx 18 _ rfl;obtain⟨g19,tX⟩:=R.ef hx 19 _ rfl;obtain⟨aU,cm,aY,aZ⟩:=R.pB;rw[hp]at g2;have A0:=At.refl R;have HX:=ag hx;have HS:=ag (qJ R aG ch bO);rw[hb]at HS;have A1:=A0.g HX.out {x with res:={x.res with aJ:=2}} (q:=15) (v:=I 2);have A2:=A1.g (az HX.out) {x with res:={x.res with aJ:=2},ae:=18} (q:=2) (v:=I 18);rw[aA]at A2;have HA:=ag A2;clear A1 A2;clear R aG hx hp hb A0;unfold bR;go_enter func106,ntmps106;go_wp2_with (go_at_call 162;refine HS.out.mono ?_;rintro e w1 ⟨rfl,rfl⟩);go_end0;exact⟨rfl,HA.out.aI⟩
theorem Pr(R:bz af F w m S)(aG:Good S)(g:Nat)(x:bI)(hx:S.gs[g]?=some x)(ch:Int)(bO:eX ch)(hp:x.ae=3)(hb:iX S ch=some true):Calls prog 106 #[bR F,I g,I ch] w (ee fun w'=>At af F m w m w' (S.ay g {x with point:=0,ae:=4})):=by
 have eM:=cA hx;have c2:=R.dM;have c3:=R.eu;obtain⟨g2,xV⟩:=R.ef hx 2 _ rfl;obtain⟨g12,xC⟩:=R.ef hx 12 _ rfl;obtain⟨g15,tT⟩:=R.ef hx 15 _ rfl;obtain⟨g16,tU⟩:=R.ef hx 16 _ rfl;obtain⟨g17,tV⟩:=R.ef hx 17 _ rfl;obtain⟨g18,tW⟩:=R.ef hx 18 _ rfl;obtain⟨g19,tX⟩:=R.ef hx 19 _ rfl;obtain⟨aU,cm,aY,aZ⟩:=R.pB;rw[hp]at g2;have A0:=At.refl R;have HX:=ag hx;have HS:=ag (lW R ch bO true hb);have A1:=A0.g HX.out {x with point:=0} (q:=12) (v:=I 0);have A2:=A1.g (az HX.out) {x with point:=0,ae:=4} (q:=2) (v:=I 4);rw[aA]at A2;have HA:=ag A2;clear A1 A2;clear R aG hx hp hb A0;unfold bR;go_enter func106,ntmps106;go_wp2_with (go_at_call 161;refine HS.out.mono ?_;rintro e w1 ⟨rfl,n,rfl⟩);refine bodyPost_ret (results_none rfl _ _ _) rfl ?_;exact⟨rfl,HA.out.aI⟩
theorem Ps(R:bz af F w m S)(aG:Good S)(g:Nat)(x:bI)(hx:S.gs[g]?=some x)(ch:Int)(bO:eX ch)(hp:x.ae=3)(hb:iX S ch=some false):Calls prog 106 #[bR F,I g,I ch] w (ee fun w'=>At af F m w m w' (S.ay g {x with res:={aJ:=1,case:= -1},point:=S.av,ae:=18})):=by
 have eM:=cA hx;have c2:=R.dM;have c3:=R.eu;obtain⟨g2,xV⟩:=R.ef hx 2 _ rfl;obtain⟨g12,xC⟩:=R.ef hx 12 _ rfl;obtain⟨g15,tT⟩:=R.ef hx 15 _ rfl;obtain⟨g16,tU⟩:=R.ef hx 16 _ rfl;obtain⟨g17,tV⟩:=R.ef hx 17 _ rfl;obtain⟨g18,tW⟩:=R.ef hx 18 _ rfl;obtain⟨g19,tX⟩:=R.ef hx 19 _ rfl;obtain⟨aU,cm,aY,aZ⟩:=R.pB;rw[hp]at g2;have A0:=At.refl R;have HX:=ag hx;have HS:=ag (lW R ch bO false hb);have A1:=A0.res HX.out {aJ:=1,case:= -1};have A2:=A1.g (az HX.out) {x with res:={aJ:=1,case:= -1},point:=S.av} (q:=12) (v:=I S.av);rw[aA]at A2;have A3:=A2.g (az HX.out) {x with res:={aJ:=1,case:= -1},point:=S.av,ae:=18} (q:=2) (v:=I 18);rw[aA]at A3;have HA:=ag A3;clear A1 A2 A3;clear R aG hx hp hb A0;unfold bR;go_enter func106,ntmps106;go_wp2_with (go_at_call 161;refine HS.out.mono ?_;rintro e w1 ⟨rfl,n,rfl⟩);go_end0;exact⟨rfl,HA.out.aI⟩
theorem FK(R:bz af F w m S)(aG:Good S)(g:Nat)(ch:Int)(bO:eX ch)(S':Wd)(hm:jI S g ch=some S'):Calls prog 163 #[bR F,I g,I ch] w (ee fun w'=>At af F m w m w' S'):=by
 unfold jI at hm;simp only[bW,cI]at hm;obtain⟨x,hx,hm⟩:=hm;have eM:=cA hx;have c2:=R.dM;have c3:=R.eu;obtain⟨g2,xV⟩:=R.ef hx 2 _ rfl;obtain⟨g12,xC⟩:=R.ef hx 12 _ rfl;obtain⟨g15,tT⟩:=R.ef hx 15 _ rfl;obtain⟨g16,tU⟩:=R.ef hx 16 _ rfl;obtain⟨g17,tV⟩:=R.ef hx 17 _ rfl;obtain⟨g18,tW⟩:=R.ef hx 18 _ rfl;obtain⟨g19,tX⟩:=R.ef hx 19 _ rfl;obtain⟨aU,cm,aY,aZ⟩:=R.pB;have A0:=At.refl R;have HX:=ag hx;have HS:=ag (qJ R aG ch bO)
 cases hb:dK S ch with
 |false=>
  rw[aE (by simp[hb])]at hm;rw[hb]at HS;obtain⟨x',th,rfl⟩:=dr hm;rw[hx]at th
  cases th;have A1:=A0.g HX.out {x with ae:=6} (q:=2) (v:=I 6)
  have HA:=ag A1;clear A1;clear R aG hx hm hb A0;unfold bR;go_enter func163,ntmps163;go_wp2_with (go_at_call 162;refine HS.out.mono ?_;rintro e w1 ⟨rfl,rfl⟩);go_end0;exact⟨rfl,HA.out⟩
 |true=>
  rw[aF hb]at hm;rw[hb]at HS;simp only[cI]at hm;obtain⟨⟨c,r⟩,tS,hm⟩:=hm;obtain⟨hc,hr⟩:=kx tS;subst hc;clear tS;obtain⟨rr,rb,pL,fA,c5,cp⟩:=R.iJ hr;obtain⟨Hw,gr,a,cc',hh,k0,k1,k2,_⟩:=R.eU hr;rw[fA]at gr
  cases gr;have gm:c<S.au.length:=cA hr;have hs:IntKind.i64.wrap ((c:Int)+1-1)=(c:Int):=by rw[jX _ (by omega)];omega
  obtain⟨cn,RG⟩:=dC (r.count);rw[←RG]at k2 hm;by_cases hp:0<cn
  ·rw[aF hp]at hm;obtain⟨x',th,rfl⟩:=dr hm;rw[hx]at th
   cases th;have A1:=A0.g HX.out {x with ae:=9} (q:=2) (v:=I 9)
   have HA:=ag A1;clear A1;clear R aG hx hm hb A0 hr pL fA hh RG;unfold bR;go_enter func163,ntmps163;go_wp2_with (first|(go_at_call 162;refine HS.out.mono ?_;rintro e w1 ⟨rfl,rfl⟩)|go_in);go_end0;exact⟨rfl,HA.out⟩
  ·rw[aE hp]at hm
   cases hm;have A1:=A0.res HX.out {aJ:=1,case:= -1};have A2:=A1.g (az HX.out) {x with res:={aJ:=1,case:= -1},point:=S.av} (q:=12) (v:=I S.av)
   rw[aA]at A2;have A3:=A2.g (az HX.out) {x with res:={aJ:=1,case:= -1},point:=S.av,ae:=16} (q:=2) (v:=I 16);rw[aA]at A3;have HA:=ag A3;clear A1 A2 A3;clear R aG hx hb A0 hr pL fA hh RG;unfold bR;go_enter func163,ntmps163;go_wp2_with (first|(go_at_call 162;refine HS.out.mono ?_;rintro e w1 ⟨rfl,rfl⟩)|go_in);go_end0;exact⟨rfl,HA.out⟩
theorem IH(R:bz af F w m S)(aG:Good S)(ch:Int)(bO:eX ch)(s:Nat)(S2:Wd)(v:Int)(hm:ik S ch s=some (S2,v)):Calls prog 165 #[bR F,I ch,I s] w (eL (I v) fun w'=>At af F m w m w' S2):=by
 have Ap:=ag (At.refl R);have HM:=ag (gJ R ch);unfold ik at hm
 cases gv:cZ S ch with
 |false=>
  rw[aF gv]at hm
  cases hm;rw[gv]at HM;clear R aG gv;unfold bR;go_enter func165,ntmps165;go_wp2_with (go_at_call 138;refine HM.out.mono ?_;rintro e w1 ⟨rfl,rfl⟩);go_ret;exact⟨rfl,Ap.out⟩
 |true=>
  rw[aE (by simp[gv])]at hm;rw[gv]at HM;simp only[bW,cI]at hm;obtain⟨sd,eo,⟨c,r⟩,tS,hm⟩:=hm;obtain⟨hc,hr⟩:=kx tS;subst hc;clear tS;have mj:s<S.ah.length:=cA eo;have c9:=R.ed;have Ut:decide ((s:Int)<0)=false:=by simp
  have Rp:decide ((S.ah.length:Int)≤(s:Int))=false:=by simp;omega
  have s5:=R.s eo 5 _ rfl;obtain⟨rr,rb,pL,fA,c5,cp⟩:=R.iJ hr;obtain⟨Hw,gr,a,cc',hh,k0,k1,k2,_⟩:=R.eU hr;rw[fA]at gr
  cases gr;have eK:=aG.au c r hr;have gm:c<S.au.length:=cA hr;have hs:IntKind.i64.wrap ((c:Int)+1-1)=(c:Int):=by rw[jX _ (by omega)];omega
  obtain⟨HR,uv,lP⟩:=ij hr fA eK;obtain⟨n,hn⟩:=dC (r.places.length);unfold Ring.room at hm;rw[←hn]at k0 hm;by_cases hp:(n:Int)=0
  ·rw[aF hp]at hm
   cases hm;obtain rfl:n=0:=by omega
   clear R aG gv eo hr pL fA eK hh hn hp;unfold bR;go_enter func165,ntmps165;go_wp2_with (first|(go_at_call 138;refine HM.out.mono ?_;rintro e w1 ⟨rfl,rfl⟩)|(go_at_call 53;go_in));go_ret;exact⟨rfl,Ap.out⟩
  ·rw[aE hp]at hm;have vT:((n:Int)==0)=false:=by simpa using hp
   obtain⟨pv,pok,Pt⟩:∃pv pok,(r.pass sd.v).2=(pv,pok):=⟨_,_,rfl⟩;have II:(r.pass sd.v).2.1=pv:=(by rw[Pt]);have IJ:(r.pass sd.v).2.2=pok:=(by rw[Pt]);rw[II,IJ]at hm;obtain⟨Nq,En⟩:=dA II IJ;clear Pt II IJ
   cases pok with
   |true=>
    cases hm;clear R aG gv eo hr pL fA eK hh hn hp;unfold bR;go_enter func165,ntmps165;go_wp2_with (first|(go_at_call 138;refine HM.out.mono ?_;rintro e w1 ⟨rfl,rfl⟩)|(go_at_call 53;go_in)|(go_at_call 208;refine(BH Ap.out.bj HR.out uv.out lP.out sd.v).mono ?_;rw[Nq.out,En.out];rintro e wN ⟨rfl,A⟩;have HA:=ag A;clear A));go_ret;exact⟨rfl,HA.out⟩
   |false=>
    cases hm;clear R aG gv eo hr pL fA eK hh hn hp;unfold bR;go_enter func165,ntmps165;go_wp2_with (first|(go_at_call 138;refine HM.out.mono ?_;rintro e w1 ⟨rfl,rfl⟩)|(go_at_call 53;go_in)|(go_at_call 208;refine(BH Ap.out.bj HR.out uv.out lP.out sd.v).mono ?_;rw[Nq.out,En.out];rintro e wN ⟨rfl,A⟩;have HA:=ag A;clear A));go_ret;exact⟨rfl,HA.out⟩
end
theorem AV(la:Option Addr)(ln lc:Nat)(w:World):Calls prog 45 #[.slice la ln lc,I 0] w (eL (.agg #[.slice la ln lc,I 0,I 0,I 0,B false,I 0,B false,I (-1),I (-1),I (-1),I 0,I 0,I 0,I (-1),I (-1),I 0,I (-1),I 0,B false,I 0,.slice none 0 0,.slice none 0 0,.slice none 0 0,.slice none 0 0,I 0]) (Below w.heap.size w)):=by
 go_enter func45,ntmps45;go_upto_region 1 with fail
 obtain⟨Z,hZ⟩:∃Z:Array Value,Z=#[Value.slice none 0 0,I 0,I 0,I 0,B false,I 0,B false,I 0,I 0,I 0,I 0,I 0,I 0,I 0,I 0,I 0,I 0,I 0,B false,I 0,Value.slice none 0 0,Value.slice none 0 0,Value.slice none 0 0,Value.slice none 0 0,I 0]:=⟨_,rfl⟩;obtain⟨rs,vY⟩:∃b,b=w.heap.size:=⟨_,rfl⟩;obtain⟨W0,LI⟩:∃W,W=w.alloc (.cells Z 100):=⟨_,rfl⟩;have UJ:Z.size=25:=by rw[hZ];rfl
 rw[←hZ,←vY,←LI];have hz:W0.heap[rs]?=some (.cells Z 100 (0,0)):=by rw[LI,vY];exact dP _ _
 have hb:Below w.heap.size w W0:=by rw[LI];exact(fp _ _).alloc cG _
 obtain⟨HZ,UK,HB⟩:=ij hz UJ hb;have ZW:=ag (Nat.le_of_eq vY.symm);clear hZ LI vY hz UJ hb;go_wp2_with (refine cB rfl 100 (.tmp 4) (.tmp 8) rfl rs 0 #[.slice la ln lc,I 0,I 0,I 0,B false,I 0,B false,I (-1),I (-1),I (-1),I 0,I 0,I 0,I (-1),I (-1),I 0,I (-1),I 0,B false,I 0,.slice none 0 0,.slice none 0 0,.slice none 0 0,.slice none 0 0,I 0] rfl rfl (by rw[fE];rfl) (fun j hj=>by rw[cr _ _ _ _ _ _ HZ.out,Nat.zero_add,xL (by rw[UK.out];exact hj)];rfl) (fun j hj=>iM _ _ _ _ _ HZ.out) (by simp[Value.oneCell']) ?_);have iw:=dI (cs:=#[.slice la ln lc,I 0,I 0,I 0,B false,I 0,B false,I (-1),I (-1),I (-1),I 0,I 0,I 0,I (-1),I (-1),I 0,I (-1),I 0,B false,I 0,.slice none 0 0,.slice none 0 0,.slice none 0 0,.slice none 0 0,I 0]) HZ.out (by rw[UK.out];rfl);refine bodyPost_ret (lN rfl _ _ rs #[.slice la ln lc,I 0,I 0,I 0,B false,I 0,B false,I (-1),I (-1),I (-1),I 0,I 0,I 0,I (-1),I (-1),I 0,I (-1),I 0,B false,I 0,.slice none 0 0,.slice none 0 0,.slice none 0 0,.slice none 0 0,I 0] 100 (0,0) mC (by rw[fE];rfl) rfl iw) rfl ?_;exact⟨rfl,Below.setCells ZW.out _ _ _ HB.out⟩
theorem tZ{fn:Func}{p q:Tmp}{ty:TypeId}(h:fn.results=#[.cell p ty,.tmp q])(tmps:Array Value)(w:World)(b:Nat)(cs:Array Value)(t:TypeId)(fr:Nat×Nat)(hu:∃d,prog.underlying ty=some d∧(match d with| .struct _| .array _ _=>true|_=>false)=true)(hi:(prog.info? ty).map (·.size)=some cs.size)(hp:tmps.getD p undef=.pointer (some ⟨b,0,none⟩))(hg:w.heap[b]?=some (.cells cs t fr)):(results fn tmps).run prog w=.ok (.tuple #[.agg cs,tmps.getD q undef]) w:=by
 obtain⟨d,hu,hd⟩:=hu;have vT:tmps[p]?.getD undef=.pointer (some ⟨b,0,none⟩):=by simpa using hp
 have hr:(loadVar ty ⟨b,0,none⟩).run prog w=.ok (.agg cs) w:=by
  cases d with
  |struct f=>exact run_loadVar_row w b t ty cs fr _ hg hu rfl hi
  |array f e=>exact run_loadVar_row w b t ty cs fr _ hg hu rfl hi
  |_=>cases hd
 simp[results,h,vT,asAddr,hr]
inductive RK|st|gs|ca|su|cf|rs deriving DecidableEq
def L9:RK→Option (Nat×Nat)
 | .gs=>some (100,25)
 | .ca=>some (28,1)
 | .su=>some (105,7)
 | .rs=>some (41,12)
 |_=>none
def iy(lo:Nat)(w0 wr:World)(sb cb rb:Nat)(x y:Int)(D vg vs vc:Value)(ng ns nc:Nat):Prop:=
 ∃aV cap ct,cN lo w0 wr aV L9 cap ct∧aV .st=some sb∧aV .cf=some cb∧(aV .rs=some rb∧cap .rs=1)∧ct .cf=[I x,I y]∧(ct .rs).length=12∧
  ct .st=[I x,I y,I 0,vg,.slice none 0 0,vs,vc,.slice none 0 0,I 0,D,I 0,.slice none 0 0]∧
  vg=nG (aV .gs) ng (cap .gs)∧vs=nG (aV .su) ns (cap .su)∧vc=nG (aV .ca) nc (cap .ca)∧(ct .gs).length=ng*25∧(ct .su).length=ns*7∧(ct .ca).length=nc*1
section
variable{lo:Nat}{w0 wr w':World}{sb cb rb:Nat}{x y:Int}{D vg vs vc:Value}{ng ns nc:Nat}
theorem iy.eC(H:iy lo w0 wr sb cb rb x y D vg vs vc ng ns nc)(hb:Below wr.heap.size wr w'):iy lo w0 w' sb cb rb x y D vg vs vc ng ns nc:=by
 obtain⟨aV,cap,ct,O,h⟩:=H;exact⟨aV,cap,ct,O.eC hb,h⟩
theorem iy.alloc(H:iy lo w0 wr sb cb rb x y D vg vs vc ng ns nc)(o:Obj):iy lo w0 (wr.alloc o) sb cb rb x y D vg vs vc ng ns nc:=H.eC ((fp _ _).alloc cG o)
theorem iy.uw(H:iy lo w0 wr sb cb rb x y D vg vs vc ng ns nc):Below lo w0 wr∧lo≤wr.heap.size:=by
 obtain⟨aV,cap,ct,O,h⟩:=H;exact⟨O.below,O.tL⟩
theorem iy.cells(H:iy lo w0 wr sb cb rb x y D vg vs vc ng ns nc):(∀(j:Nat) v,[I x,I y,I 0,vg,.slice none 0 0,vs,vc,.slice none 0 0,I 0,D,I 0,.slice none 0 0][j]?=some v→wr.cell? ⟨sb,j,none⟩=some v)∧(∀j,wr.frozen? ⟨sb,j,none⟩=false)∧sb<wr.heap.size∧wr.cell? ⟨cb,0,none⟩=some (I x)∧wr.cell? ⟨cb,1,none⟩=some (I y)∧cb<wr.heap.size:=by
 obtain⟨aV,cap,ct,O,h1,h2,h3,h4,h5,h6,h7⟩:=H;exact⟨fun j v hv=>O.cell h1 (by rw[h6];exact hv),fun j=>O.frozen h1 j,O.lt h1,O.cell h2 (by rw[h4];rfl),O.cell h2 (by rw[h4];rfl),O.lt h2⟩
theorem iy.res(H:iy lo w0 wr sb cb rb x y D vg vs vc ng ns nc):(∃Z t,Z.size=12∧wr.heap[rb]?=some (.cells Z t (0,0)))∧lo≤rb:=by
 obtain⟨aV,cap,ct,O,h1,h2,h3,h4,h5,h6,h7⟩:=H;obtain⟨h0,arr,t,g1,g2,g3,g4⟩:=O.lies _ _ h3.1;exact⟨⟨arr,t,by have:=(g4 _ rfl).2.1;rw[h3.2]at this;exact this,g1⟩,h0⟩
theorem IK{aV:RK→Option Nat}{cap:RK→Nat}{ct:RK→List Value}(O:cN lo w0 wr aV L9 cap ct){r:RK}(hr:r≠ .st)(h1:aV .st=some sb)(n:Nat):(nG (aV r) n (cap r)).ownBlock≠some sb:=fun e=>by
 rw[gV]at e;exact hr (O.inj _ _ _ e h1)
theorem iy.gs(H:iy lo w0 wr sb cb rb x y D vg vs vc ng ns nc):∃xs,wr.ownsRow lo 100 25 vg ng xs∧vg.ownBlock≠some sb∧(xs.length=ng*25)∧(∀(w':World) (g cp:Nat) (us:List Value),us.length=25→(wr.alloc (.cells us.toArray 100)).grownBy w' vg.ownBlock→w'.ownsRow lo 100 25 (.slice (some ⟨g,0,none⟩) (ng+1) cp) (ng+1) (xs++us)→(vg.ownBlock=some g∨(wr.alloc (.cells us.toArray 100)).heap.size≤g)→iy lo w0 (w'.setCell ⟨sb,3,none⟩ (.slice (some ⟨g,0,none⟩) (ng+1) cp)) sb cb rb x y D (.slice (some ⟨g,0,none⟩) (ng+1) cp) vs vc (ng+1) ns nc):=by
 obtain⟨aV,cap,ct,O,h1,h2,h3,h4,h5,h6,rfl,rfl,rfl,l1,l2,l3⟩:=H;refine⟨ct .gs,O.owns (k:=.gs) (p:=(100,25)) rfl (by decide) l1,IK O (by simp) h1 _,l1,fun w' g cp us hu hg hown gp=>?_⟩;rw[gV]at hg gp;have O2:=((O.alloc (.cells us.toArray 100)).row (r:=.gs) (p:=(100,25)) (fun q h=>by cases h;rfl) hg hown gp).set (r:=.st) (b:=sb) (j:=3) (v:=.slice (some ⟨g,0,none⟩) (ng+1) cp) (by rw[aD _ _ (by simp)];exact h1);refine⟨_,_,_,O2,?_,?_,?_,?_,?_,?_,?_,?_,?_,?_,?_,?_⟩<;>simp only[up,aF,aE,reduceCtorEq,dt,dF,and_self,h1,h2,h3,h4,h5,h6,l2,l3,py,l1,hu,List.set_cons_succ,List.set_cons_zero]
 ·simp[nG]
 ·omega
theorem iy.su(H:iy lo w0 wr sb cb rb x y D vg vs vc ng ns nc):∃xs,wr.ownsRow lo 105 7 vs ns xs∧vs.ownBlock≠some sb∧(xs.length=ns*7)∧(∀(w':World) (g cp:Nat) (us:List Value),us.length=7→(wr.alloc (.cells us.toArray 105)).grownBy w' vs.ownBlock→w'.ownsRow lo 105 7 (.slice (some ⟨g,0,none⟩) (ns+1) cp) (ns+1) (xs++us)→(vs.ownBlock=some g∨(wr.alloc (.cells us.toArray 105)).heap.size≤g)→iy lo w0 (w'.setCell ⟨sb,5,none⟩ (.slice (some ⟨g,0,none⟩) (ns+1) cp)) sb cb rb x y D vg (.slice (some ⟨g,0,none⟩) (ns+1) cp) vc ng (ns+1) nc):=by
 obtain⟨aV,cap,ct,O,h1,h2,h3,h4,h5,h6,rfl,rfl,rfl,l1,l2,l3⟩:=H;refine⟨ct .su,O.owns (k:=.su) (p:=(105,7)) rfl (by decide) l2,IK O (by simp) h1 _,l2,fun w' g cp us hu hg hown gp=>?_⟩;rw[gV]at hg gp;have O2:=((O.alloc (.cells us.toArray 105)).row (r:=.su) (p:=(105,7)) (fun q h=>by cases h;rfl) hg hown gp).set (r:=.st) (b:=sb) (j:=5) (v:=.slice (some ⟨g,0,none⟩) (ns+1) cp) (by rw[aD _ _ (by simp)];exact h1);refine⟨_,_,_,O2,?_,?_,?_,?_,?_,?_,?_,?_,?_,?_,?_,?_⟩<;>simp only[up,aF,aE,reduceCtorEq,dt,dF,and_self,h1,h2,h3,h4,h5,h6,l1,l3,py,l2,hu,List.set_cons_succ,List.set_cons_zero]
 ·simp[nG]
 ·omega
theorem iy.ca(H:iy lo w0 wr sb cb rb x y D vg vs vc ng ns nc):∃xs,wr.ownsRow lo 28 1 vc nc xs∧vc.ownBlock≠some sb∧(xs.length=nc*1)∧(∀(w':World) (g cp:Nat) (us:List Value),us.length=1→(wr.alloc (.cells us.toArray 28)).grownBy w' vc.ownBlock→w'.ownsRow lo 28 1 (.slice (some ⟨g,0,none⟩) (nc+1) cp) (nc+1) (xs++us)→(vc.ownBlock=some g∨(wr.alloc (.cells us.toArray 28)).heap.size≤g)→iy lo w0 (w'.setCell ⟨sb,6,none⟩ (.slice (some ⟨g,0,none⟩) (nc+1) cp)) sb cb rb x y D vg vs (.slice (some ⟨g,0,none⟩) (nc+1) cp) ng ns (nc+1)):=by
 obtain⟨aV,cap,ct,O,h1,h2,h3,h4,h5,h6,rfl,rfl,rfl,l1,l2,l3⟩:=H;refine⟨ct .ca,O.owns (k:=.ca) (p:=(28,1)) rfl (by decide) l3,IK O (by simp) h1 _,l3,fun w' g cp us hu hg hown gp=>?_⟩;rw[gV]at hg gp;have O2:=((O.alloc (.cells us.toArray 28)).row (r:=.ca) (p:=(28,1)) (fun q h=>by cases h;rfl) hg hown gp).set (r:=.st) (b:=sb) (j:=6) (v:=.slice (some ⟨g,0,none⟩) (nc+1) cp) (by rw[aD _ _ (by simp)];exact h1);refine⟨_,_,_,O2,?_,?_,?_,?_,?_,?_,?_,?_,?_,?_,?_,?_⟩<;>simp only[up,aF,aE,reduceCtorEq,dt,dF,and_self,h1,h2,h3,h4,h5,h6,l1,l2,py,l3,hu,List.set_cons_succ,List.set_cons_zero]
 ·simp[nG]
 ·omega
theorem iy.gs2{xs:List Value}{us:Array Value}{g cp:Nat}(H:iy lo w0 wr sb cb rb x y D vg vs vc ng ns nc)(hu:us.size=25)(hp:xs.length=ng*25∧(∀(w':World) (g cp:Nat) (us:List Value),us.length=25→(wr.alloc (.cells us.toArray 100)).grownBy w' vg.ownBlock→w'.ownsRow lo 100 25 (.slice (some ⟨g,0,none⟩) (ng+1) cp) (ng+1) (xs++us)→(vg.ownBlock=some g∨(wr.alloc (.cells us.toArray 100)).heap.size≤g)→iy lo w0 (w'.setCell ⟨sb,3,none⟩ (.slice (some ⟨g,0,none⟩) (ng+1) cp)) sb cb rb x y D (.slice (some ⟨g,0,none⟩) (ng+1) cp) vs vc (ng+1) ns nc))(h:w'.ownsRow lo 100 25 (.slice (some ⟨g,0,none⟩) (ng+1) cp) (ng+1) (xs++us.toList)∧(wr.alloc (.cells us 100)).grownBy w' vg.ownBlock∧(vg.ownBlock=some g∨(wr.alloc (.cells us 100)).heap.size≤g)):iy lo w0 (w'.setCell ⟨sb,3,none⟩ (.slice (some ⟨g,0,none⟩) (ng+1) cp)) sb cb rb x y D (.slice (some ⟨g,0,none⟩) (ng+1) cp) vs vc (ng+1) ns nc:=
 hp.2 w' g cp us.toList (by simpa using hu) h.2.1 h.1 h.2.2
end
end Go.Proofs.YtadifmnmfnihdaaGreat
namespace Go.Proofs.YtadifmnmfnihdaaGreat
open Go.RowKit Go.Maps Go.ChangeMaps Go.Proofs.Tryz
theorem Rd.grown{k:IntKind}{w w':World}{ao:Option Addr}{zs:List Int}{g:Nat}(h:Rd k w ao zs)(hg:w.grownBy w' (some g))(cM:∀b off,ao=some ⟨b,off,none⟩→b≠g):Rd k w' ao zs:=by
 refine⟨h.1,fun h0=>?_⟩;obtain⟨b,off,e,hc⟩:=h.2 h0;exact⟨b,off,e,fun j hj=>hg.cell (hc j hj) (by simpa using cM b off e)⟩
def jh(w:World)(b n:Nat)(f:Int→Int):Prop:=
 ∃D:DataW Unit,w.ownsMap prog 3 (plainElem prog 3) b n D∧∀g:Int,(Lit.int .i64 g).wf=true→D.atKey (.int .i64 g) (.lit (.int .i64 0))=.lit (.int .i64 (f g))
theorem ZX:Keyed prog 3:=int_keyed underlying3
theorem ZY(w:World):(zeroValue 3).run prog w=.ok (.int .i64 0) w:=by kernel_rfl
theorem jh.cZ(w:World):jh (w.alloc (.map #[] 0)) w.heap.size 0 (fun _=>0):=⟨_,World.ownsMap_made w _ _ _,fun _ _=>rfl⟩
theorem jh.lt{w:World}{b n:Nat}{f:Int→Int}(h:jh w b n f):b<w.heap.size:=by
 obtain⟨D,h,_⟩:=h;exact h.lt
theorem jh.kept{w w':World}{b n:Nat}{f:Int→Int}{row:Option Nat}(h:jh w b n f)(hg:w.grownBy w' row)(cM:some b≠row):jh w' b n f:=by
 obtain⟨D,h,hf⟩:=h;exact⟨D,h.kept hg cM,hf⟩
theorem jh.below{w w':World}{b n:Nat}{f:Int→Int}(h:jh w b n f)(hg:Below w.heap.size w w'):jh w' b n f:=
 h.kept (row:=none) ⟨hg.os,hg.tape,hg.output,hg.size,fun k hk _=>hg.block k hk⟩ (by simp)
theorem jh.mono{w:World}{b n n':Nat}{f:Int→Int}(h:jh w b n f)(hn:n≤n'):jh w b n' f:=by
 obtain⟨D,h,hf⟩:=h;exact⟨D,h.mono hn,hf⟩
theorem jh.congr{w:World}{b n:Nat}{f f':Int→Int}(h:jh w b n f)(he:∀g,(Lit.int .i64 g).wf=true→f g=f' g):jh w b n f':=by
 obtain⟨D,h,hf⟩:=h;exact⟨D,h,fun g hg=>by rw[hf g hg,he g hg]⟩
theorem jh.lookup{w:World}{b n:Nat}{f:Int→Int}(h:jh w b n f){g:Int}(hg:(Lit.int .i64 g).wf=true):(Instr.lookup 120 (.map (some b)) (.int .i64 g) false).run prog w=.ok (.int .i64 (f g)) w:=by
 obtain⟨D,h,hf⟩:=h;obtain⟨c,ta,ks,_⟩:=h.lookup_int ZX underlying120 underlying3 (ZY _) (keyOf_int_mk underlying3 hg);rw[hf g hg]at ks;simp at ks;rw[ta,ks]
theorem jh.update{w:World}{b n:Nat}{f:Int→Int}(h:jh w b n f)(hn:n<maxLen){g v:Int}(hg:(Lit.int .i64 g).wf=true)(hv:(Lit.int .i64 v).wf=true):∃w',(Instr.mapUpdate 120 (.map (some b)) (.int .i64 g) (.int .i64 v)).run prog w=.ok () w'∧jh w' b (n+1) (fun x=>if x=g then v else f x)∧w.grownBy w' (some b):=by
 obtain⟨D,h,hf⟩:=h;have hm:IsMap D:=by obtain⟨es,clock,_,_,_,e⟩:=h;exact⟨_,e⟩
 obtain⟨w',ta,h1,h2⟩:=h.update ZX underlying120 hn (keyOf_int_mk underlying3 hg) (plainElem_int underlying3 hv);refine⟨w',ta,⟨_,h1,fun x hx=>?_⟩,h2⟩;by_cases he:x=g
 ·subst he;rw[atKey_put_same hm (k:=.int .i64 x) (show WideAt.IsKeyLit (.int .i64 x)from trivial)];simp
 ·rw[atKey_put_other (by simpa using he),hf x hx];simp[he]
theorem jh.clear{w:World}{b n:Nat}{f:Int→Int}(h:jh w b n f)(ty:TypeId):∃w',(Builtin.clear_ #[120] ty #[.map (some b)]).run prog w=.ok (.tuple #[]) w'∧jh w' b 0 (fun _=>0)∧w.grownBy w' (some b):=by
 obtain⟨D,⟨es,clock,hb,_⟩,hf⟩:=h
 refine⟨setBlock w b (.map #[] clock),?_,⟨.map [],⟨#[],clock,heap_setBlock_same hb _,⟨by simp,MapKept.stamped_empty clock,by simp⟩,Nat.le_refl _,rfl⟩,fun _ _=>rfl⟩,
  ⟨rfl,rfl,rfl,by simp[setBlock],fun i _ hi=>heap_setBlock_other hb _ (fun e=>hi (by rw[e]))⟩⟩
 simp[Builtin.clear_,run_underlying underlying120,MapKept.run_getObj_map hb,MapKept.run_setObj_map _ hb,Result.andThen,setBlock]
theorem uZ{w:World}{ops:Array Oper}{rest:List Oper}{o:Oper}{a:Act}{Q:Exit→Act→World→Prop}(nX:o.guard=none)(m x v:Operand)(Pu:o.op=Op.mapUpdate 120 m x v)(b n:Nat)(f:Int→Int)(g z:Int)(hm:a.eval m=.map (some b))(hown:jh w b n f)(hn:n<maxLen)(hx:a.eval x=.int .i64 g)(hv:a.eval v=.int .i64 z)(hg:(Lit.int .i64 g).wf=true)(hz:(Lit.int .i64 z).wf=true)(h:∀w',jh w' b (n+1) (fun x=>if x=g then z else f x)→w.grownBy w' (some b)→wpList prog ops Q rest (a.put o.dst undef) w'):wpList prog ops Q (o::rest) a w:=by
 refine wpList_plain nX fun K hK=>?_
 obtain⟨w',ta,h1,h2⟩:=hown.update hn hg hz;unfold Oper.wp;simp[execOp,Pu,hm,hx,hv,ta,Result.andThen];exact hK _ _ (h _ h1 h2)
theorem lX{P:Program}{w:World}{ops:Array Oper}{rest:List Oper}{o:Oper}{a:Act}{Q:Act→Prop}(nX:o.guard=none)(m x:Operand)(Pu:o.op=Op.lookup 120 m x false)(b:Nat)(key v:Value)(hm:a.eval m=.map (some b))(hx:a.eval x=key)(ta:(Instr.lookup 120 (.map (some b)) key false).run P w=.ok v w)(h:wpStill P ops w Q rest (a.put o.dst v)):wpStill P ops w Q (o::rest) a:=by
 unfold wpStill;rw[aF (by simp[Region.wanted,nX])];unfold Oper.still;simp[execOp,Pu,hm,hx,ta,Oper.stillUpon,Result.andThen];exact h
def iC(who:Int)(run:List Int)(f:Int→Int)(g:Int):Int:=if g∈run∧g≠who then f g+1 else 0
theorem IL(who:Int)(run:List Int)(f:Int→Int)(j:Nat)(g:Int)(hj:j<run.length):iC who (run.take (j+1)) f g=if g=run.getD j 0∧g≠who then f g+1 else iC who (run.take j) f g:=by
 have hm:g∈run.take (j+1)↔g∈run.take j∨g=run.getD j 0:=by
  have:run.getD j 0=run[j]:=by simp[List.getD,hj]
  rw[this,List.take_succ_eq_append_getElem hj,List.mem_append,List.mem_singleton]
 unfold iC;by_cases h1:g=run.getD j 0<;>by_cases h2:g=who<;>by_cases h3:g∈run.take j<;>simp[hm,h1,h2,h3];all_goals(first|omega|(subst h1;simp_all)|simp_all)
structure AW(s b:Nat)(w w':World):Prop where
 os:w'.os=w.os
 tape:w'.tape=w.tape
 output:w'.output=w.output
 size:w.heap.size≤w'.heap.size
 block:∀k,k<w.heap.size→k≠s→k≠b→w'.heap[k]?=w.heap[k]?
theorem AW.refl(s b:Nat)(w:World):AW s b w w:=⟨rfl,rfl,rfl,Nat.le_refl _,fun _ _ _ _=>rfl⟩
theorem AW.trans{s b:Nat}{w w1 w2:World}(h1:AW s b w w1)(h2:AW s b w1 w2):AW s b w w2:=
 ⟨h2.os.trans h1.os,h2.tape.trans h1.tape,h2.output.trans h1.output,jm h1.size h2.size,fun k hk e1 e2=>(h2.block k (uB hk h1.size) e1 e2).trans (h1.block k hk e1 e2)⟩
theorem AW.FL{s b:Nat}{w w1:World}(h:w.grownBy w1 (some b)):AW s b w w1:=⟨h.os,h.tape,h.output,h.size,fun k hk _ e2=>h.block k hk (by simpa using e2)⟩
theorem AW.rd{s b:Nat}{w w':World}{ao:Option Addr}{zs:List Int}(h:Rd .i64 w ao zs)(hg:AW s b w w')(cM:0<zs.length→∀b' off,ao=some ⟨b',off,none⟩→b'≠s∧b'≠b):Rd .i64 w' ao zs:=by
 refine⟨h.1,fun h0=>?_⟩;obtain⟨b',off,e,hc⟩:=h.2 h0;refine⟨b',off,e,fun j hj=>?_⟩;have hv:=hc j hj;rw[kZ (w:=w) (hg.block b' (xo w _ hv) (cM h0 b' off e).1 (cM h0 b' off e).2)];exact hv
structure fH(w:World)(s b1 b2 n1 n2:Nat)(f1 f2:Int→Int):Prop where
 aV:w.heap[s]?=some (.cells #[.map (some b1),.map (some b2)] 122 (0,0))
 m1:jh w b1 n1 f1
 m2:jh w b2 n2 f2
 Km:b1≠s
 Nu:b2≠s
 ne:b1≠b2
theorem fH.lt{w:World}{s b1 b2 n1 n2:Nat}{f1 f2:Int→Int}(h:fH w s b1 b2 n1 n2 f1 f2):s<w.heap.size:=(dh h.aV).1
theorem fH.c0{w:World}{s b1 b2 n1 n2:Nat}{f1 f2:Int→Int}(h:fH w s b1 b2 n1 n2 f1 f2):w.cell? ⟨s,0,none⟩=some (.map (some b1)):=by simp[World.cell?,h.aV]
theorem fH.c1{w:World}{s b1 b2 n1 n2:Nat}{f1 f2:Int→Int}(h:fH w s b1 b2 n1 n2 f1 f2):w.cell? ⟨s,1,none⟩=some (.map (some b2)):=by simp[World.cell?,h.aV]
theorem Ma{s b1 b2 n1 n2 m:Nat}{f1 f2:Int→Int}{who:Int}{run:List Int}(r:Option Addr)(c:Nat)(w:World)(hm:m=run.length)(ap9:m≤20)(hA:fH w s b1 b2 n1 n2 f1 f2)(hr:Rd .i64 w r run)(SX:∀z∈run,(Lit.int .i64 z).wf=true)(hf:∀g,0≤f1 g∧f1 g≤1000000)(hrn:0<run.length→∀b off,r=some ⟨b,off,none⟩→b≠s∧b≠b2):Calls prog 31 #[.pointer (some ⟨s,0,none⟩),.agg #[.int .i64 who,.slice r m c]] w (ee fun w'=>fH w' s b2 b1 m n1 (iC who run f1) f1∧AW s b2 w w'):=by
 have dD:=hA.lt;have hA1:fH (w.alloc (.cells #[.int .i64 who,.slice r m c] 83)) s b1 b2 n1 n2 f1 f2:=by have hg:=World.grownBy_alloc w (.cells #[.int .i64 who,.slice r m c] 83) none;exact⟨(hg.block s dD (by simp)).trans hA.aV,hA.m1.kept hg (by simp),hA.m2.kept hg (by simp),hA.Km,hA.Nu,hA.ne⟩
 obtain⟨HM,HA,HR,HF,HRN,SY⟩:=mr hm hA hr hf hrn SX;have ri:=ag hA1;clear hm hA hr hf SX hA1 hrn;go_enter func31,ntmps31;go_wp2;obtain⟨w1,jk⟩:=dC (w.alloc (.cells #[.int .i64 who,.slice r m c] 83));have hp:w1.heap[w.heap.size]?=some (.cells #[.int .i64 who,.slice r m c] 83 (0,0)):=by rw[jk];exact dP w _
 have hR1:Rd .i64 w1 r run:=by rw[jk];exact HR.out.below ((fp w.heap.size w).alloc cG _) cG
 have ZZ:AW s b2 w w1:=by rw[jk];exact⟨rfl,rfl,rfl,by simp,fun k hk _ _=>gf w _ k hk⟩
 rw[←jk]at ri;rw[←jk];have Z0:=ag ZZ;have Ot:=ag hR1;obtain⟨p,hpp⟩:=dC (w.heap.size);rw[←hpp]at hp;rw[←hpp];have N9:p≠s:=by have:=HA.out.lt;omega
 have aA6:p≠b1:=by have:=HA.out.m1.lt;omega
 have Z1:p≠b2:=by have:=HA.out.m2.lt;omega
 have HP:=ag hp;clear jk HA HR ZZ hR1 hp hpp;have c0:=ri.out.c0;have c1:=ri.out.c1;have g0:=iM w1 s 0 _ _ ri.out.aV;have g1:=iM w1 s 1 _ _ ri.out.aV;go_region;obtain⟨w2,nt⟩:=dC (((w1.setCell ⟨s,0,none⟩ (.map (some b2))).setCell ⟨s,1,none⟩ (.map (some b1))).drew);have qw:∀k,k≠s→w2.heap[k]?=w1.heap[k]?:=fun k hk=>by rw[nt];show((w1.setCell ⟨s,0,none⟩ (.map (some b2))).setCell ⟨s,1,none⟩ (.map (some b1))).heap[k]?=_;rw[fQ _ _ _ _ (by simpa using hk),fQ _ _ _ _ (by simpa using hk)]
 have rI:w2.heap[s]?=some (.cells #[.map (some b2),.map (some b1)] 122 (0,0)):=by rw[nt];have h1:=heap_setCell_same w1 s 0 _ _ (.map (some b2)) ri.out.aV;have h2:=heap_setCell_same _ s 1 _ _ (.map (some b1)) h1;show((w1.setCell ⟨s,0,none⟩ (.map (some b2))).setCell ⟨s,1,none⟩ (.map (some b1))).heap[s]?=_;simpa using h2
 have hsz:w2.heap.size=w1.heap.size:=by rw[nt];simp[World.setCell]
 have EU:w1.grownBy w2 (some s):=⟨by rw[nt];rfl,by rw[nt];rfl,by rw[nt];rfl,by omega,fun k _ hk=>qw k fun e=>hk (by rw[e])⟩;rw[←nt];have Lf:fH w2 s b2 b1 n2 n1 f2 f1:=⟨rI,ri.out.m2.kept EU (by simpa using ri.out.Nu),ri.out.m1.kept EU (by simpa using ri.out.Km),ri.out.Nu,ri.out.Km,dE ri.out.ne⟩;have nx:=ag Lf;have En:=ag ((qw p N9).trans HP.out);have nU:=ag EU;have d0:=Lf.c0;clear nt qw rI hsz EU Lf ri HP c0 c1 g0 g1;obtain⟨w3,ta,er,Oi⟩:=nx.out.m1.clear 0;have SZ:fH w3 s b2 b1 0 n1 (iC who (run.take 0) f1) f1:=by refine⟨(Oi.block s nx.out.lt (by simpa using fun e=>nx.out.Km e.symm)).trans nx.out.aV,er.congr fun g _=>by simp[iC],nx.out.m2.kept Oi (by simpa using dE nx.out.ne),nx.out.Km,nx.out.Nu,nx.out.ne⟩
 have U2:AW s b2 w w3:=by have h1:=Z0.out;have h2:=nU.out;refine⟨Oi.os.trans (h2.os.trans h1.os),Oi.tape.trans (h2.tape.trans h1.tape),Oi.output.trans (h2.output.trans h1.output),jm h1.size (jm h2.size Oi.size),fun k hk e1 e2=>?_⟩;have s1:=h1.size;have s2:=h2.size;rw[Oi.block k (by omega) (by simpa using e2),h2.block k (by omega) (by simpa using e1),h1.block k hk e1 e2]
 have U3:w3.heap[p]?=some (.cells #[.int .i64 who,.slice r m c] 83 (0,0)):=by rw[Oi.block p (dh En.out).1 (by simpa using Z1)];exact En.out
 have hr3:Rd .i64 w3 r run:=by have g2:=nU.out;have h2:Rd .i64 w2 r run:=AW.rd (s:=s) (b:=b2) Ot.out ⟨g2.os,g2.tape,g2.output,g2.size,fun k hk e1 _=>g2.block k hk (by simpa using e1)⟩ HRN.out;exact AW.rd (s:=s) (b:=b2) h2 (AW.FL Oi) HRN.out
 obtain⟨vC,tK,Eo,SB⟩:=ia SZ U2 U3 hr3;have q0:=cr w3 p 0 _ _ _ U3;have q1:=cr w3 p 1 _ _ _ U3;simp only[List.getElem?_toArray,List.getElem?_cons_zero,List.getElem?_cons_succ]at q0 q1;clear SZ U2 U3 hr3 er Oi nx En nU Z0 Ot;go_wp2;go_loopw [5,27] (fun _ i wr=>∃j:Nat,j≤m∧i=.int .i64 j∧Hid (fH wr s b2 b1 j n1 (iC who (run.take j) f1) f1)∧Hid (AW s b2 w3 wr)) (fun _ i _=>m-(intOf i).toNat)
 case atStart=>exact⟨0,Nat.zero_le _,rfl,vC,⟨rfl,rfl,rfl,Nat.le_refl _,fun _ _ _ _=>rfl⟩⟩
 case round=>
  obtain⟨j,hj,rfl,HA,HB⟩:=hrel;have hpw:wr.heap[p]?=some (.cells #[.int .i64 who,.slice r m c] 83 (0,0)):=by rw[HB.out.block p (dh Eo.out).1 N9 Z1];exact Eo.out
  have e0:=cr wr p 0 _ _ _ hpw;simp only[List.getElem?_toArray,List.getElem?_cons_zero]at e0;clear hpw;by_cases dD:j<m
  ·obtain⟨b3,o3,rfl,hz⟩:=(AW.rd SB.out HB.out HRN.out).at j (by rw[←HM.out];exact dD)
   have hzm:run.getD j 0∈run:=by
    have hj:j<run.length:=(by rw[←HM.out];exact dD);have:run.getD j 0=run[j]:=by simp[List.getD,hj]
    rw[this];exact List.getElem_mem hj
   have hzw:=SY.out _ hzm;have jf:=fun g=>IL who run f1 j g (by rw[←HM.out];exact dD)
   obtain⟨z,hzz⟩:=dC (run.getD j 0);rw[←hzz]at hz hzw jf;have HZW:=ag hzw;have pI:=ag jf;clear hzm hzz hzw jf;by_cases cM:z=who
   ·have V9:Hid (fH wr s b2 b1 (j+1) n1 (iC who (run.take (j+1)) f1) f1):=by
     refine⟨HA.out.aV,(HA.out.m1.congr fun g _=>?_).mono (by omega),HA.out.m2,HA.out.Km,HA.out.Nu,HA.out.ne⟩;rw[pI.out g,aE (by rintro⟨h1,h2⟩;exact h2 (h1.trans cM))]
    clear HA;go_wp2;go_roundw
    case rel=>exact⟨j+1,by omega,by go_num,V9,HB⟩
    case measure=>simp[intOf];omega
   ·have d0:=HA.out.c0;have d1:=HA.out.c1;have Aq:=(show jh {wr with drawn:=wr.drawn+1} b1 n1 f1 from HA.out.m2).lookup HZW.out;have hfz:=HF.out z;obtain⟨q,hq⟩:=dC (f1 z);rw[←hq]at Aq hfz;have HQ:=ag hq;clear hq;have BI:IntKind.i64.wrap (q+1)=q+1:=jX _ (by omega);go_wp2;have HWQ:=ag BI;clear BI;go_still_tail 12,(by kernel_rfl);refine lX rfl (.tmp 43) (.tmp 44) rfl b1 (.int .i64 z) (.int .i64 q) rfl rfl Aq ?_;still_step;refine wpStill_nil ?_;change wpList _ _ _ _ _ wr.drew;refine uZ rfl (.tmp 38) (.tmp 39) (.tmp 46) rfl b2 j (iC who (run.take j) f1) z (IntKind.i64.wrap (q+1)) rfl (show jh wr.drew b2 j _ from HA.out.m1) (by unfold maxLen;omega) rfl rfl HZW.out (by rw[HWQ.out];simp[Lit.wf,IntKind.min,IntKind.max,IntKind.signed,IntKind.bits];omega) ?_;intro w5 tn Mb;have hg5:wr.grownBy w5 (some b2):=⟨Mb.os,Mb.tape,Mb.output,Mb.size,Mb.block⟩;clear Mb;rw[HWQ.out]at tn
    have V9:Hid (fH w5 s b2 b1 (j+1) n1 (iC who (run.take (j+1)) f1) f1):=by
     refine⟨(hg5.block s HA.out.lt (by simpa using dE HA.out.Km)).trans HA.out.aV,tn.congr fun g _=>?_,HA.out.m2.kept (row:=some b2) hg5 (by simpa using dE HA.out.ne),HA.out.Km,HA.out.Nu,HA.out.ne⟩;rw[pI.out g,HQ.out];by_cases hgz:g=z
     ·subst hgz;rw[aF rfl,aF ⟨rfl,cM⟩]
     ·rw[aE hgz,aE (fun h=>hgz h.1)]
    have HB':Hid (AW s b2 w3 w5):=HB.out.trans (AW.FL hg5);clear HA HB tn hg5 Aq d0 d1;go_wp2;go_roundw
    case rel=>exact⟨j+1,by omega,by go_num,V9,HB'⟩
    case measure=>simp[intOf];omega
  ·obtain rfl:j=m:=by omega
   have V9:Hid (fH wr s b2 b1 j n1 (iC who run f1) f1):=(by have:=HA.out;rw[yl (by rw[←HM.out];exact Nat.le_refl _)]at this;exact this);have HB':Hid (AW s b2 w wr):=tK.out.trans HB.out;clear HA HB;go_wp2;exact bodyPost_end (v:=.tuple #[]) (results_none rfl _ _ _) rfl ⟨rfl,V9.out,HB'.out⟩
end Go.Proofs.YtadifmnmfnihdaaGreat
