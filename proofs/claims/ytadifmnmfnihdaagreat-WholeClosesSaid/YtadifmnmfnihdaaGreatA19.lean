import Derived.Test.YtadifmnmfnihdaaGreatA13
import Derived.Test.YtadifmnmfnihdaaGreatA17
import Derived.Test.YtadifmnmfnihdaaGreatA18
set_option linter.all false
set_option maxRecDepth 100000
set_option maxHeartbeats 40000000
namespace Go.Proofs.YtadifmnmfnihdaaGreat
open Mach
namespace V
section
variable{w w':Wd}{ls:List (List Nat)}{g:Nat}{x x':bI}{C:Nat}
theorem M.s4a(L:Loc C x)(hk:2≤(aP x).ai∧(aP x).ai≤5)(hp:x.ae=4):lH x {x with ae:=5}∧Loc C {x with ae:=5}∧∀c,aL {x with ae:=5} c↔aL x c∨c=(aP x).ch:=by
 have e:aP {x with ae:=5}=aP x:=rfl;exact ah9
theorem M.s4b(L:Loc C x)(hk:(aP x).ai=6)(hp:x.ae=4):lH x {x with ae:=21}∧Loc C {x with ae:=21}∧∀c,aL {x with ae:=21} c↔aL x c∨c=(aP x).ch:=by
 have e:aP {x with ae:=21}=aP x:=rfl;exact ah9
theorem M.s12(L:Loc C x)(hk:(aP x).ai=2∨(aP x).ai=3)(hp:x.ae=12):lH x {x with ae:=13}∧Loc C {x with ae:=13}∧∀c,aL {x with ae:=13} c↔aL x c∧c≠(aP x).ch:=by
 have e:aP {x with ae:=13}=aP x:=rfl;exact ah9
section
variable(L:Loc C x)(hk:2≤(aP x).ai∧(aP x).ai≤6)(hp:x.ae=16)
include L hk hp
theorem M.ap2(hw:x.wakes≠[]):lH x {x with ae:=17}∧Loc C {x with ae:=17}∧∀c,aL {x with ae:=17} c↔aL x c∧c≠(aP x).ch:=by
 have e:aP {x with ae:=17}=aP x:=rfl;exact ah9
theorem M.ap3(hw:x.wakes=[]):lH x {x with ae:=18}∧Loc C {x with ae:=18}∧∀c,aL {x with ae:=18} c↔aL x c∧c≠(aP x).ch:=by
 have e:aP {x with ae:=18}=aP x:=rfl;exact ah9
end
theorem OY(I:Inv w ls)(hx:w.gs[g]?=some x)(hs:Na w g)(hk:2≤(aP x).ai∧(aP x).ai≤6)(hp:x.ae=4):∃w',Mach.lock w g ((aP x).ch-1)=some w'∧Inv w' ls∧bK w w':=by
 have L:=I.loc g x hx;have hc:=L.cZ oX oX oX oX oX;have hg:g<w.gs.length:=cA hx;obtain⟨h,h1,h2⟩:=za I hg hc;unfold Mach.lock;rw[h2];by_cases e:h= -1
 ·subst e;simp only[dt,qd hx];have eE:({w with aq:=w.aq.set ((aP x).ch-1).toNat g}:Wd).gs[g]?=some x:=hx;by_cases h6:(aP x).ai=6
  ·obtain⟨m1,m2,m3⟩:=M.s4b L h6 hp;refine⟨_,qK eE _,?_⟩;simp only[h6,dt];exact I.XK hx hs m1 ⟨sX,sX⟩ m2 hc m3 rfl h1
  ·obtain⟨m1,m2,m3⟩:=M.s4a L oX hp;refine⟨_,qK eE _,?_⟩;simp only[h6,dF];exact I.XK hx hs m1 ⟨sX,sX⟩ m2 hc m3 rfl h1
 ·simp only[aE e,nW,dF];exact⟨w,rfl,I,bK.refl w⟩
theorem IC(hx:w.gs[g]?=some x):dk w g=some (w.ay g {x with ae:=if x.wakes=[]then 18 else 17}):=qK hx _
section
variable(I:Inv w ls)(hx:w.gs[g]?=some x)(hs:Na w g)
include I hx hs
theorem ID(hk:2≤(aP x).ai∧(aP x).ai≤6)(hp:x.ae=16):∃w',dk (free w ((aP x).ch-1) g) g=some w'∧Inv w' ls∧bK w w':=by
 have L:=I.loc g x hx;have hc:=L.cZ oX oX oX oX oX;have hh:aL x (aP x).ch:=bv6
 by_cases hw:x.wakes=[]
 ·obtain⟨m1,m2,m3⟩:=M.ap3 L hk hp hw;obtain⟨a,b⟩:=I.rel hx hs m1 ⟨sX,sX⟩ m2 hc m3 rfl hh;refine⟨_,by rw[a];exact IC (x:=x) hx,?_⟩;rw[aF hw];exact b
 ·obtain⟨m1,m2,m3⟩:=M.ap2 L hk hp hw;obtain⟨a,b⟩:=I.rel hx hs m1 ⟨sX,sX⟩ m2 hc m3 rfl hh;refine⟨_,by rw[a];exact IC (x:=x) hx,?_⟩;rw[aE hw];exact b
theorem Fw(hk:(aP x).ai=2∨(aP x).ai=3)(hp:x.ae=12):Inv ((free w ((aP x).ch-1) g).ay g {x with ae:=13}) ls∧bK w ((free w ((aP x).ch-1) g).ay g {x with ae:=13}):=by
 have L:=I.loc g x hx;have hc:=L.cZ oX oX oX oX oX;have hh:aL x (aP x).ch:=bv6
 obtain⟨m1,m2,m3⟩:=M.s12 L hk hp;obtain⟨a,b⟩:=I.rel hx hs m1 ⟨sX,sX⟩ m2 hc m3 rfl hh;rw[a];exact b
end
end
section
variable{w w':Wd}{ls:List (List Nat)}{g:Nat}{x x':bI}
theorem Inv.OZ(I:Inv w ls)(hx:w.gs[g]?=some x)(M:lH x x')(hL:Loc w.au.length x')(hh:∀c,aL x' c↔aL x c)(e1:w'.gs=w.gs.set g x')(e2:w'.ax.length=w.ax.length)(e3:w'.au=w.au)(e5:w'.aO=w.aO)(e6:w'.aq=w.aq)(e8:w'.ah=w.ah)(e9:w'.aw=w.aw)(Lj:w'.Eg=w.Eg)(jf:tc w'.gs w'.ax)(J0:pD w'.gs w'.ax):Inv w' ls:=by
 have K:=I.iQ hx M.aP M.bY M.bA;have W:=I.jU (x':=x') hx (by rw[M.wakes];exact List.Sublist.refl _)
 exact I.mn hx hL (fun k l s sd _ _ _ _ a b=>⟨(K.2.2 _ _).2 a,M.q _ b⟩) K.1 K.2.1 (fun j u s sd _ _ _ _ _ _ a b c d e=>⟨(K.2.2 _ _).2 a,M.wt.2 b,M.aN.trans c,by rw[(M.seen b).1];exact d,by rw[M.aP,(M.seen b).2];exact e,by rw[M.aP];exact id⟩)
  (fun h=>aX h M.cl) (fun h=>aX h M.lo) (I.qB hx K.2.2 M.aN fun h=>(M.seen h).1) W.1 W.2 e1 e2 (by rw[e3]) (by rw[e3];exact I.au) (by rw[e5]) (by rw[e6]) (by rw[e6,e1];exact I.lock.same hx hh) e8 e9 Lj jf J0
section
variable{b:List (Int×Bool)}
theorem SQ{g j:Nat}{p p' q:Int×Bool}(hb:b[g]?=some p)(h:(b.set g p')[j]?=some q):(j=g∧q=p')∨(j≠g∧b[j]?=some q):=by
 exact aY0
theorem ZL{g:Nat}{p:Int×Bool}(p':Int×Bool)(hb:b[g]?=some p):(b.set g p')[g]?=some p':=nH (cA hb)
theorem bne{g j:Nat}(p':Int×Bool)(h:j≠g):(b.set g p')[j]?=b[j]?:=oA (dE h)
theorem qm{g:Nat}{s:Int}{t:Bool}(h:b[g]?=some (s,t)):bU b g=s∧token b g=t:=by
 unfold bU token idx;simp[h]
theorem yb{g:Nat}{t:Bool}(h:b[g]?=some (0,t)):(tD b g).1=b.set g (if t then 0 else 1,false):=by
 unfold tD;rw[(qm h).1,(qm h).2]
 cases t<;>simp
end
section
variable(I:Inv w ls)(hx:w.gs[g]?=some x)(hs:Na w g)
include I hx hs
theorem Fy(hk:(aP x).ai=2∨(aP x).ai=3∨(aP x).ai=9)(hp:x.ae=13):Inv ({w.ay g {x with ae:=14}with ax:=(tD w.ax g).1}:Wd) ls∧bK w ({w.ay g {x with ae:=14}with ax:=(tD w.ax g).1}:Wd):=by
 have L:=I.loc g x hx;obtain⟨t,hb⟩:=hs;have hw:aW x:=bu2
 have hM:lH x {x with ae:=14}∧Loc w.au.length {x with ae:=14}∧∀c,aL {x with ae:=14} c↔aL x c:=by
  rcases hk with h|h|h
  ·exact M.p13 L (.inl h) hp
  ·exact M.p13 L (.inr h) hp
  ·exact M.V2 L h hp
 obtain⟨m1,m2,m3⟩:=hM;have hw':=m1.wt.2 hw;obtain⟨a1,a2,a3,a4,a5,a6,a7⟩:=I.st g x 0 t hx hb;refine⟨I.OZ hx m1 m2 m3 rfl ?_ rfl rfl rfl rfl rfl rfl ?_ ?_,dW hx rfl,rfl,rfl,rfl,rfl,rfl⟩
 ·simp only;rw[yb hb];simp
 ·simp only;rw[yb hb];intro j y s u hy hu;rcases SQ hb hu with⟨rfl,e⟩|⟨cM,hu⟩
  ·obtain rfl:y={x with ae:=14}:=by
    rcases cX hx hy with⟨_,h⟩|⟨h,_⟩
    ·exact h
    ·exact aX rfl h
   simp only[Prod.mk.injEq]at e;obtain⟨rfl,rfl⟩:=e
   cases t
   ·simp
   ·exact⟨sX,sX,sX,sX,sX,fun _ _=>(a3 rfl).2.2.1,sX⟩
  ·rcases cX hx hy with⟨rfl,_⟩|⟨_,rN⟩
   ·exact aX rfl cM
   ·exact I.st j y s u rN hu
 ·simp only;rw[yb hb];intro j y z hy hz
  have xq:∃(j0:Nat) (y0:bI),w.gs[j0]?=some y0∧z∈y0.wakes:=by
   rcases cX hx hy with⟨h1,h2⟩|⟨cM,hy⟩
   ·exact⟨g,x,hx,by rw[h2]at hz;exact hz⟩
   ·exact⟨j,y,hy,hz⟩
  obtain⟨j0,y0,J2,fV⟩:=xq;obtain⟨i,u,s,h0,h1,h2,h3,h4,h5⟩:=I.jn j0 y0 z J2 fV;by_cases hi:i=g
  ·subst hi;rw[hx]at h1;cases h1;rw[hb]at h4;cases h4;exact⟨i,{x with ae:=14},1,h0,di _ hx,hw',h3,ZL _ hb,fun _=>rfl⟩
  ·exact⟨i,u,s,h0,by show(w.gs.set g _)[i]?=_;rw[gd _ hi];exact h1,h2,h3,by rw[bne _ hi];exact h4,h5⟩
theorem Inv.O4(hw:aW x)(hp:x.ae=14)(e1:x'.ops=x.ops)(e2:x'.at_=x.at_)(e3:x'.bY=x.bY)(e4:x'.bA=x.bA)(e7:x'.aH=x.aH)(e5:x'.wakes=x.wakes)(e6:x'.aN= -1)(vT:x'.ae=15∧(aP x).ai≠9∨x'.ae=31∧(aP x).ai=9)(hL:Loc w.au.length x')(hh:∀c,aL x' c↔aL x c):Inv (w.ay g x') ls∧bK w (w.ay g x'):=by
 have L:=I.loc g x hx;have eg:aP x'=aP x:=oM e1 e2;obtain⟨t,hb⟩:=hs;obtain⟨a1,a2,a3,a4,a5,a6,a7⟩:=I.st g x 0 t hx hb;have hq:=a6 hp rfl
 have ht:t=false:=by
  cases t with
  |false=>rfl
  |true=>exact aX hp (a3 rfl).2.1
 have K:=I.iQ (x':=x') hx eg e3 e4;have W:=I.jU (x':=x') hx (by rw[e5];exact List.Sublist.refl _)
 have Ko:∀(j:Nat) u,w.gs[j]?=some u→(g:Int) ∉ u.wakes:=by
  intro j u hu hz;obtain⟨i,v,s,h0,h1,h2,h3,h4,h5⟩:=I.jn j u g hu hz;obtain rfl:i=g:=oX
  rw[hx]at h1;cases h1;rw[hb]at h4;cases h4;have:=h5 hp;omega
 refine⟨I.mn hx hL (fun k l s sd _ _ _ _ a c=>⟨(K.2.2 _ _).2 a,?_⟩) K.1 K.2.1 (fun j u s sd _ _ _ _ _ _ a b c _ _=>oX) (fun h=>?_) (fun h=>?_) (fun s h=>oX) W.1 W.2 rfl rfl rfl I.au rfl rfl (I.lock.same hx hh) rfl rfl rfl ?_ ?_,dW hx e1,rfl,rfl,rfl,rfl,rfl⟩
 ·rcases c with c|c
  ·omega
  ·rcases vT with⟨h,h2⟩|⟨h,h2⟩
   ·exact aX c.1 h2
   ·obtain⟨s1,s2,s3⟩:=L.oW h2 oX oX oX oX;rcases a with a|⟨_,Dj,oF,_⟩
    ·exact aX h2 a.1
    ·have ho:=(s3.own _ _ oF oX).2;obtain⟨i,hi⟩:=List.mem_iff_getElem?.1 ho;refine .inr ⟨by rw[eg];exact h2,.inr (.inr (.inr (.inr (.inl ⟨h,i,?_⟩))))⟩;rw[e7,hi];congr 1;omega
 ·unfold aT at h;omega
 ·unfold bm at h;omega
 ·intro j y s u hy hu;rcases cX hx hy with⟨rfl,rfl⟩|⟨cM,rN⟩
  ·have hu2:w.ax[j]?=some (s,u):=hu;rw[hb]at hu2;cases hu2;exact⟨a1,a2,fun h=>(by rw[ht]at h;cases h),fun h=>oX,fun h=>oX,fun h=>oX,fun h=>oX⟩
  ·exact I.st j y s u rN hu
 ·intro j y z hy hz
  have xq:∃(j0:Nat) (y0:bI),w.gs[j0]?=some y0∧z∈y0.wakes:=by
   rcases cX hx hy with⟨h1,h2⟩|⟨cM,hy⟩
   ·exact⟨g,x,hx,by rw[h2,e5]at hz;exact hz⟩
   ·exact⟨j,y,hy,hz⟩
  obtain⟨j0,y0,J2,fV⟩:=xq;obtain⟨i,u,s,h0,h1,h2,h3,h4,h5⟩:=I.jn j0 y0 z J2 fV;by_cases hi:i=g
  ·subst hi;exact aX (h0▸fV) (Ko j0 y0 J2)
  ·exact⟨i,u,s,h0,by show(w.gs.set g _)[i]?=_;rw[gd _ hi];exact h1,h2,h3,h4,h5⟩
theorem Inv.Wr(hp:x.ae=14):∃(s:Nat) (sd:gn),x.aN=s∧w.ah[s]?=some sd∧sd.cK=true∧sd.g=g∧eP x s sd∧x.fire=sd.case:=by
 obtain⟨t,hb⟩:=hs;have hq:=(I.st g x 0 t hx hb).2.2.2.2.2.1 hp rfl;obtain⟨s,hs⟩:=pz hq;obtain⟨sd,h1,h2,h3,h4,h5⟩:=I.served g x s hx hs;exact⟨s,sd,hs,h1,h2,h3,h4,h5⟩
theorem Dk(hk:(aP x).ai=2)(hp:x.ae=14):∃w',lu w g=some w'∧Inv w' ls∧bK w w':=by
 obtain⟨s,sd,h1,h2,h3,h4,h5,h6⟩:=I.Wr hx hs hp;unfold lu;simp only[hx,h1,eQ,h2,bW,eN];obtain⟨m2,m3⟩:=M.Ng (I.loc g x hx) (.inl hk) hp (bZ (if sd.done then 1 else 3)) rfl;exact⟨_,rfl,I.O4 hx hs bu2 hp rfl rfl rfl rfl rfl rfl rfl (.inl ⟨rfl,oX⟩) m2 m3⟩
theorem Dl(hk:(aP x).ai=3)(hp:x.ae=14)(ch:Int):∃w',j1 w g ch=some w'∧Inv w' ls∧bK w w':=by
 obtain⟨s,sd,h1,h2,h3,h4,h5,h6⟩:=I.Wr hx hs hp;unfold j1;simp only[hx,hp,h1,eQ,h2,bW,eN];rw[aE oX,aE oX];obtain⟨m2,m3⟩:=M.Ng (I.loc g x hx) (.inr hk) hp (if sd.done then{aJ:=1,case:= -1,v:=sd.v,ok:=true}else{aJ:=1,case:= -1}) (by split<;>rfl);exact⟨_,rfl,I.O4 hx hs bu2 hp rfl rfl rfl rfl rfl rfl rfl (.inl ⟨rfl,oX⟩) m2 m3⟩
theorem LY(hk:(aP x).ai=9)(hp:x.ae=14):∃w',uF w g=some w'∧Inv w' ls∧bK w w':=by
 obtain⟨s,sd,h1,h2,h3,h4,h5,h6⟩:=I.Wr hx hs hp;have L:=I.loc g x hx;obtain⟨s1,s2,s3⟩:=L.oW hk oX oX oX oX;unfold uF;simp only[hx,h1,eQ,h2,bW,eN]
 have nL:cV (aP x) w.au.length {x with res:=mK sd}:=by
  rcases h5 with h5|⟨_,Dj,oF,c,xz,Ws,hc4⟩
  ·exact aX hk h5.1
  ·have ho:=(s3.own _ _ oF oX).2;obtain⟨_,c',e1,e2,e3,_⟩:=s1.ord _ ho;have e4:((sd.case.toNat:Nat):Int).toNat=sd.case.toNat:=by omega
   rw[e4,xz]at e1
   cases e1;refine .inl ⟨?_,?_,?_,c,?_,e2,e3,?_⟩<;>unfold mK
   ·split
    ·simp
    ·split
     ·simp
     ·split<;>simp
   ·simp only[h6];split
    ·rfl
    ·split
     ·rfl
     ·split<;>rfl
   ·split
    ·exact Dj
    ·split
     ·exact Dj
     ·split<;>exact Dj
   ·split
    ·exact xz
    ·split
     ·exact xz
     ·split<;>exact xz
   ·rw[←hc4];split
    ·simp
    ·split
     ·simp
     ·split
      ·rename_i h;intro _;exact h
      ·simp
 have ic:(mK sd).aJ≠0:=by
  unfold mK;split
  ·simp
  ·split
   ·simp
   ·split<;>simp
 obtain⟨m2,m3⟩:=M.c14 L hk hp oX (mK sd) ic nL;exact⟨_,rfl,I.O4 hx hs bu2 hp rfl rfl rfl rfl rfl rfl rfl (.inr ⟨rfl,hk⟩) m2 m3⟩
end
end
section
variable{w w':Wd}{ls:List (List Nat)}{g z s:Nat}{x x' y:bI}{sd:gn}
theorem Ca(h:x.ae≠12∧x.ae≠13∧x.ae≠14∧x.ae≠29∧x.ae≠30∧x.ae≠31∧x.ae≠32)(sd:gn):¬eV x sd:=by
 rintro(⟨_,h1,_⟩|⟨_,h1⟩)
 ·omega
 ·rcases h1 with⟨h1,_⟩|⟨h1,_⟩|h1|h1|⟨h1,_⟩|⟨h1,_⟩<;>omega
theorem uy(h:x.ae≠12∧x.ae≠13∧x.ae≠14∧x.ae≠29∧x.ae≠30):¬aW x:=fun hw=>by have:=iB hw;omega
section
variable(I:Inv w ls)(hx:w.gs[g]?=some x)(hs:Na w g)
include I hx hs
theorem Cb(hk:2≤(aP x).ai∧(aP x).ai≤6∨(aP x).ai=9)(hp:x.ae=17):∃z w',x.wakes[0]?=some z∧dk (({w with ax:=(ready w.ax z).1}:Wd).ay g {x with wakes:=x.wakes.drop 1}) g=some w'∧Inv w' ls∧bK w w':=by
 have L:=I.loc g x hx;obtain⟨t,hb⟩:=hs;have oN:¬aW x:=uy oX
 cases J0:x.wakes with
 |nil=>exact aX J0 (L.ready hp)
 |cons z0 rest=>
  have fV:z0∈x.wakes:=by rw[J0];simp
  obtain⟨j,y,s,rfl,hy,XL,hyp,Vx,ap4⟩:=I.jn g x z0 hx fV;obtain⟨a1,a2,a3,a4,a5,a6,a7⟩:=I.st j y s false hy Vx;have aA5:=iB XL;have ZN:s=0∨s=1:=by rcases Int.lt_or_lt_of_ne (a:=s) (b:=2) (fun h=>by have:=(a7 h).1;omega)with h|h<;>omega
  have hjg:j≠g:=by rintro rfl;rw[hx]at hy;cases hy;exact oN XL
  have jF:(ready w.ax j).1=w.ax.set j (if s=1 then(0,false)else(0,true)):=by
   unfold ready;rw[(qm Vx).1,(qm Vx).2];rcases ZN with h|h
   ·subst h;simp
   ·subst h;simp
  obtain⟨x',th,hL,hh,kM⟩:∃x':bI,x'={x with wakes:=rest,ae:=if rest=[]then 18 else 17}∧Loc w.au.length x'∧(∀c,aL x' c↔aL x c)∧(x'.ae=17∨x'.ae=18):=by
   by_cases hr:rest=[]
   ·subst hr;obtain⟨m2,m3⟩:=M.ao3 L hk hp;exact⟨_,by rw[aF rfl],m2,m3,.inr rfl⟩
   ·obtain⟨m2,m3⟩:=M.ao2 L hk hp rest hr;exact⟨_,by rw[aE hr],m2,m3,.inl rfl⟩
  have eg:aP x'=aP x:=by rw[th];rfl
  have K:=I.iQ (x':=x') hx eg (by rw[th]) (by rw[th]);have ZO:x'.wakes.Sublist x.wakes:=by rw[th,J0];exact List.sublist_cons_self _ _
  have W:=I.jU (x':=x') hx ZO;have hzr:(j:Int) ∉ rest:=by have:=I.pg g x hx;rw[J0,List.nodup_cons]at this;exact this.1
  refine⟨j,({w with ax:=(ready w.ax j).1}:Wd).ay g x',rfl,?_,I.mn (w':=({w with ax:=(ready w.ax j).1}:Wd).ay g x') hx hL (fun k l s sd _ _ _ _ a c=>aX c (Ca oX sd)) K.1 K.2.1 (fun j u s sd _ _ _ _ _ _ a b _ _ _=>aX a (fun _=>oN b)) (fun h=>bk2) (fun h=>bj9) (I.qB hx K.2.2 (by rw[th]) (fun h=>aX h oN)) W.1 W.2 rfl ?_ rfl I.au rfl rfl (I.lock.same hx hh) rfl rfl rfl ?_ ?_,dW hx (by rw[th]),rfl,rfl,rfl,rfl,rfl⟩
  ·have eE:(({w with ax:=(ready w.ax j).1}:Wd).ay g {x with wakes:=(((j:Int))::rest).drop 1}).gs[g]?=some {x with wakes:=rest}:=by simp only[sU,rC];exact di _ hx
   rw[IC eE,cY,th];try simp only[sU,rC]
  ·show(ready w.ax j).1.length=w.ax.length;rw[jF];simp
  ·show tc (w.gs.set g x') (ready w.ax j).1;rw[jF];intro i u s' t' hu ff;rcases SQ Vx ff with⟨rfl,e⟩|⟨cM,ff⟩
   ·rcases cX hx hu with⟨h,_⟩|⟨_,hu⟩
    ·exact aX h hjg
    ·rw[hy]at hu;cases hu;rcases ZN with h|h
     ·subst h;rw[aE oX]at e
      cases e;exact⟨oX,oX,fun _=>⟨XL,fun h=>by have:=ap4 h;omega,hyp,rfl⟩,fun h=>oX,fun h=>oX,fun h _=>hyp,fun h=>oX⟩
     ·subst h;rw[aF rfl]at e
      cases e;exact⟨oX,oX,fun h=>bk0,fun h=>oX,fun h=>oX,fun h _=>hyp,fun h=>oX⟩
   ·rcases cX hx hu with⟨rfl,rfl⟩|⟨_,hu⟩
    ·rw[hb]at ff;cases ff;obtain⟨b1,b2,b3,b4,b5,b6,b7⟩:=I.st _ x 0 t hx hb;exact⟨b1,b2,fun h=>aX (b3 h).1 oN,fun h=>oX,fun h=>oX,fun h=>oX,fun h=>oX⟩
    ·exact I.st i u s' t' hu ff
  ·show pD (w.gs.set g x') (ready w.ax j).1;rw[jF];intro i u a hu ha
   have xq:∃(j0:Nat) (y0:bI),w.gs[j0]?=some y0∧a∈y0.wakes∧a≠j:=by
    rcases cX hx hu with⟨h1,h2⟩|⟨cM,hu⟩
    ·refine⟨g,x,hx,ZO.subset (by rw[←h2];exact ha),fun e=>hzr ?_⟩;rw[h2,th]at ha;rw[←e];exact ha
    ·exact⟨i,u,hu,ha,fun e=>cM (I.rf i u g x a hu hx ha (by rw[e];exact fV))⟩
   obtain⟨j0,y0,J2,ap5,ap6⟩:=xq;obtain⟨i',v,s',h0,h1,h2,h3,h4,h5⟩:=I.jn j0 y0 a J2 ap5;have XM:i'≠g:=(by rintro rfl;rw[hx]at h1;cases h1;exact oN h2);have K0:i'≠j:=(by rintro rfl;exact ap6 h0);exact⟨i',v,s',h0,by rw[gd _ XM];exact h1,h2,h3,by rw[bne _ K0];exact h4,h5⟩
theorem LZ(hk:(aP x).ai=2∨(aP x).ai=3)(hp:x.ae=15):∃(s:Nat) (sd:gn),x.bY=s∧w.ah[s]?=some sd∧Inv (({w.cJ s {}with Eg:=(w.Eg.nh g x.bY).1}:Wd).ay g {x with bY:= -1,ae:=18}) ls∧bK w (({w.cJ s {}with Eg:=(w.Eg.nh g x.bY).1}:Wd).ay g {x with bY:= -1,ae:=18}):=by
 have L:=I.loc g x hx;obtain⟨s,hm⟩:=pz (L.bY oX oX);obtain⟨sd,h1,h2,h3,h4⟩:=I.bY g x s hx hm;obtain⟨m2,m3⟩:=M.Ip L hk hp;have oN:¬aW x:=uy oX;have hg:g<w.gs.length:=cA hx;have oo:=L.yC oX;have W:=I.jU (x':={x with bY:= -1,ae:=18}) hx (List.Sublist.refl _)
 have I1:Inv (w.ay g {x with bY:= -1,ae:=18}) ls:=
  I.mn hx m2 (fun k l s sd _ _ _ _ a c=>aX c (Ca oX sd)) (fun s h=>bj6) (fun i s h=>by simp only[oo]at h;simp at h) (fun j u s sd _ _ _ _ _ _ a b _ _ _=>aX b oN) (fun h=>bl7) (fun h=>bk9)
   (fun s h=>by have:=L.aN.2 oN;simp only at h;omega) W.1 W.2 rfl rfl rfl I.au rfl rfl (I.lock.same hx m3) rfl rfl rfl (I.st.same hx hs (fun h=>aX h oN) rfl sX sX) (I.jn.same hx (fun h=>aX h oN) rfl rfl sX)
 have Pc:=I.cK s sd h1 h2;obtain⟨g1,g2,g3⟩:=B7 (g:=g) I.Eg hg Pc;refine⟨s,sd,hm,h1,?_,dW hx rfl,rfl,rfl,rfl,rfl,rfl⟩;rw[hm];refine I1.Wk (s:=s) (sd:=sd) (sd':={}) (p':=(w.Eg.nh g s).1) h1 (fun _ j u hu hj ho=>?_) (by simp only[Wd.ay,kI];exact g3) g2 (fun h=>bk0);obtain rfl:j=g:=oX
 rw[mH hx]at hu
 cases hu;rcases ho with⟨_,h,_⟩|⟨h,_⟩
 ·simp only at h;omega
 ·have:(aP x).ai=9:=h;omega
end
theorem Inv.Kq{b:Bool}(I:Inv w ls)(hx:w.gs[g]?=some x)(hs:Na w g)(mh:z≠g)(hy:w.gs[z]?=some y)(hw:aW y)(hp:y.aN= -1)(Ft:∀(j:Nat) u (s':Nat) sd',w.gs[j]?=some u→aT u→u.br=s'→w.ah[s']?=some sd'→sd'.g≠z)(h1:w.ah[s]?=some sd)(h2:sd.cK=true)(h3:sd.g=z)(ho:eP y s sd)(ZP:(aP y).ai=9→b=true)(Hy:(aP y).ai≠9→b=y.bk)(hq:(aP y).ai≠9→∀(k:Nat) l,ls[k]?=some l→s ∉ l)(Ek:aT x')(Xv:x'.br=s)(bO:aL x' sd.ch)(oO:¬aW x)(rl:∀sd,¬eV x sd)(e0:x'.ops=x.ops)(e1:x'.at_=x.at_)(e2:x'.bY=x.bY)(e3:x'.bA=x.bA)(e4:x'.wakes=x.wakes)(e5:x'.aN=x.aN)(hL:Loc w.au.length x')(hh:∀c,aL x' c↔aL x c)(p q:Int):Inv ((w.ay z {y with point:=p,bF:=q,fire:=sd.case,bk:=b}).ay g x') ls∧bK w ((w.ay z {y with point:=p,bF:=q,fire:=sd.case,bk:=b}).ay g x'):=by
 have hf:(aP y).ai≠9→sd.case= -1:=fun hk=>by
  rcases ho with⟨_,_,h,_⟩|⟨h,_⟩
  ·exact h
  ·exact aX h hk
 obtain⟨I1,K1⟩:=I.UY hy hw hp Ft p q sd.case b hf Hy;have eE:(w.ay z {y with point:=p,bF:=q,fire:=sd.case,bk:=b}).gs[g]?=some x:=by rw[ya _ (dE mh)];exact hx
 have rj:x'.ae=8∨x'.ae=27:=Ek;have K:=I1.iQ (x':=x') eE (oM e0 e1) e2 e3;have W:=I1.jU (x':=x') eE br6;have RE:¬bm x':=fun h=>bj9
 refine⟨I1.mn eE hL (fun k l s sd _ _ _ _ a c=>aX c (rl sd)) K.1 K.2.1 (fun j u s sd _ _ _ _ _ _ a b _ _ _=>aX b oO) (fun _=>?_) (fun h=>aX h RE) (I1.qB eE K.2.2 e5 (fun h=>aX h oO)) W.1 W.2 rfl rfl rfl I1.au rfl rfl (I1.lock.same eE hh) rfl rfl rfl (I1.st.same eE hs (fun h=>aX h oO) e5 (fun h=>oX) oX) (I1.jn.same eE (fun h=>aX h oO) e5 e4 (fun h=>oX)),K1.trans ⟨dW eE e0,rfl,rfl,rfl,rfl,rfl⟩⟩;refine⟨s,z,sd,{y with point:=p,bF:=q,fire:=sd.case,bk:=b},Xv,h1,h2,h3,mh,mH hy _,?_,hw,hp,rfl,ZP,hq,bO,?_⟩
 ·exact ho
 ·intro j u s' sd' hu cM hc SR hs';by_cases hj:j=z
  ·subst hj;rw[mH hy]at hu
   cases hu;have:=(xZ (iB hw)).1;exact aX hc this
  ·rw[ya _ hj]at hu;exact Ft j u s' sd' hu hc SR hs'
end
section
variable{w w' w2:Wd}{ls:List (List Nat)}{g z s:Nat}{x x' y:bI}{sd:gn}
theorem ky{q':bf}(h:fZ w s=some {w with aw:=q'})(e:w2.aw=w.aw):fZ w2 s=some {w2 with aw:=q'}:=by
 unfold fZ at h ⊢;rw[e]
 cases hq:w.aw.drop s with
 |none=>rw[hq]at h;cases h
 |some q=>
  rw[hq]at h;simp only[km,oZ,Wd.mk.injEq]at h;simp only[km,oZ,Wd.mk.injEq,true_and,and_true];exact h.2.2.2.2.2.2.2.2.1
theorem Pd(I:Inv w ls){c:Int}(hc:1≤c∧c≤w.au.length):1≤c∧c≤w.aq.length:=by rw[I.aq];exact hc
theorem Kr(I:Inv w ls){kk:Int}(hk:0≤kk∧kk<16):(w.aw.first kk=(0,false))∨∃(s z:Nat) (l:List Nat) (sd:gn) (y:bI),w.aw.first kk=((s:Int),true)∧ls[kk.toNat]?=some l∧s∈l∧w.ah[s]?=some sd∧sd.cK=true∧sd.g=z∧w.gs[z]?=some y∧eP y s sd∧eV y sd∧kk=Lh sd:=by
 obtain⟨k,kE⟩:=pz hk.1;subst kE;have hf:=I.q.first k;obtain⟨l,hl⟩:∃l,ls[k]?=some l:=⟨_,fv (by have:=I.bM;omega)⟩;rw[hl]at hf
 cases l with
 |nil=>exact .inl hf
 |cons s l=>
  obtain⟨sd,z,y,h1,h2,h3,h4,h5,h6,h7⟩:=I.EJ k (s::l) s hl sX;exact .inr ⟨s,z,s::l,sd,y,hf,by simpa using hl,sX,h1,h2,h3,h4,h5,h6,h7⟩
theorem wm(I:Inv w ls)(hx:w.gs[g]?=some x)(hl:¬bm x)(hs:w.ah[s]?=some sd)(hh:aL x sd.ch)(hc:1≤sd.ch∧sd.ch≤w.au.length):∀(j:Nat) u,w.gs[j]?=some u→bm u→u.br≠s:=by
 intro j u hu hlu e;obtain⟨s',k,l,sd',a,b,c,d,e',f⟩:=I.look j u hu hlu;obtain rfl:s'=s:=oX
 rw[hs]at d;cases d;have:=I.lock.one hx hu hh f (Pd I hc);subst this;rw[hx]at hu;cases hu;exact hl hlu
theorem Ks{c kk:Int}(h:kk=2*c-2∨kk=2*c-1)(hq:kk=Lh sd):sd.ch=c:=by
 unfold Lh at hq;split at hq<;>omega
theorem wu(h1:aP x'=aP x)(h2:¬aW x)(h3:¬aW x')(h4:∀sd,¬eV x sd)(h5:¬aT x')(h6:¬bm x')(h7:x'.bY=x.bY)(h8:x'.bA=x.bA)(h9:x'.wakes=x.wakes)(ph:x'.aN=x.aN):lH x x':=
 ⟨h1,⟨fun h=>aX h h3,fun h=>aX h h2⟩,h5,h6,h7,h8,h9,ph,fun h=>aX h h2,fun sd h=>aX h (h4 sd)⟩
section
variable(I:Inv w ls)(hx:w.gs[g]?=some x)
include I hx
theorem Inv.Pe(hs:Na w g){k:Nat}{l:List Nat}(hl:ls[k]?=some l)(hm:s∈l)(h1:w.ah[s]?=some sd)(hc:0≤sd.case)(Aq:bm x')(Xv:x'.br=s)(bO:aL x' sd.ch)(oO:¬aW x)(rl:∀sd,¬eV x sd)(e0:x'.ops=x.ops)(e1:x'.at_=x.at_)(e2:x'.bY=x.bY)(e3:x'.bA=x.bA)(e4:x'.wakes=x.wakes)(e5:x'.aN=x.aN)(hL:Loc w.au.length x')(hh:∀c,aL x' c↔aL x c):Inv (w.ay g x') ls∧bK w (w.ay g x'):=by
 have rj:x'.ae=7∨x'.ae=26∨x'.ae=23:=Aq;have K:=I.iQ (x':=x') hx (oM e0 e1) e2 e3;have W:=I.jU (x':=x') hx br6;have RE:¬aT x':=fun h=>bk2
 exact⟨I.mn hx hL (fun k l s sd _ _ _ _ a c=>aX c (rl sd)) K.1 K.2.1 (fun j u s sd _ _ _ _ _ _ a b _ _ _=>aX b oO) (fun h=>aX h RE) (fun _=>⟨s,k,l,sd,Xv,hl,hm,h1,hc,bO⟩) (I.qB hx K.2.2 e5 (fun h=>aX h oO)) W.1 W.2 rfl rfl rfl I.au rfl rfl (I.lock.same hx hh) rfl rfl rfl (I.st.same hx hs (fun h=>aX h oO) e5 (fun h=>oX) oX) (I.jn.same hx (fun h=>aX h oO) e5 e4 (fun h=>oX)),
  dW hx e0,rfl,rfl,rfl,rfl,rfl⟩
theorem FF(hl:¬bm x)(rl:∀sd,¬eV x sd){c:Int}(hc:1≤c∧c≤w.au.length)(hh:aL x c){kk:Int}(kE:kk=2*c-2∨kk=2*c-1)(Ey hand:Int):Mach.take w g kk Ey hand=some (w,false)∨(∃(s k:Nat) (l:List Nat) (sd:gn),Mach.take w g kk Ey hand=some (w.ay g {x with br:=s,ae:=Ey},true)∧ls[k]?=some l∧s∈l∧w.ah[s]?=some sd∧0≤sd.case∧sd.ch=c)∨(∃(s z:Nat) (sd:gn) (y:bI) (q':bf),Mach.take w g kk Ey hand=some ((({w with aw:=q'}:Wd).ay z {y with point:=w.av,bF:=g,fire:=sd.case}).ay g {x with br:=s,t:=w.av,point:=w.av,bF:=z,ae:=hand},true)∧Inv {w with aw:=q'} (iA ls s)∧w.ah[s]?=some sd∧sd.cK=true∧sd.g=z∧z≠g∧w.gs[z]?=some y∧eP y s sd∧(aP y).ai≠9∧aW y∧y.aN= -1∧sd.ch=c∧(∀(k:Nat) l,(iA ls s)[k]?=some l→s ∉ l)∧∀(j:Nat) u (s':Nat) sd',w.gs[j]?=some u→aT u→u.br=s'→w.ah[s']?=some sd'→sd'.g≠z):=by
 have hc8:=I.c8;rcases Kr I (kk:=kk) oX with h|⟨s,z,l,sd,y,h1,h2,h3,h4,h5,h6,h7,h8,h9,ph⟩
 ·left;unfold Mach.take;rw[h];rfl
 ·right;have bO:=Ks kE ph;have mh:z≠g:=by rintro rfl;rw[hx]at h7;cases h7;exact rl sd h9
  by_cases lR:0≤sd.case
  ·left;refine⟨s,kk.toNat,l,sd,?_,h2,h3,h4,lR,bO⟩;unfold Mach.take;simp only[h1,aH6,dF,eQ,hx,h4,bW,eN,aF lR]
  ·right
   have jA:(aP y).ai≠9:=by
    exact bd5
   have SS:aW y∧y.aN= -1:=by
    exact ba4
   have mj:s<w.ah.length:=cA h4;obtain⟨q',d1,d2,d3⟩:=I.B8 mj (wm I hx hl h4 (by rw[bO];exact hh) (by rw[bO];exact hc));have Ft:=I.wj h2 h3 h4 h6 h7 (fun h=>aX h jA);refine⟨s,z,sd,y,q',?_,d2,h4,h5,h6,mh,h7,h8,jA,SS.1,SS.2,bO,d3,Ft⟩;unfold Mach.take;simp only[h1,aH6,dF,eQ,hx,h4,bW,eN,aE lR];rw[ky (w2:=w.ay g {x with br:=s,t:=w.av}) d1 rfl];simp only[eN];have kt:({(w.ay g {x with br:=s,t:=w.av})with aw:=q'}:Wd).gs[g]?=some {x with br:=s,t:=w.av}:=di _ hx;have rN:({(w.ay g {x with br:=s,t:=w.av})with aw:=q'}:Wd).gs[z]?=some y:=bu3;rw[Kp (sd:=sd) kt h4 h6 rN mh];simp only[eN];rw[wa (x:={x with br:=s,t:=w.av,point:=w.av,bF:=z}) (by show((((w.gs.set g _).set g _)).set z _)[g]?=_;rw[gd _ (dE mh)];exact di (x:={x with br:=s,t:=w.av}) _ (di _ hx))];simp only[km,oZ,Prod.mk.injEq,and_true];unfold Wd.ay;simp only[Wd.mk.injEq,true_and,and_true];apply List.ext_getElem?;intro i;by_cases h1:i=g
   ·subst h1;have hg:i<w.gs.length:=cA hx;simp[sW,hg]
   ·by_cases h2:i=z
    ·subst h2;have Ay:i<w.gs.length:=cA h7;simp[sW,Ay,h1,dE h1]
    ·simp[sW,dE h1,dE h2]
theorem Cc(hs:Na w g)(hk:2≤(aP x).ai∧(aP x).ai≤5)(hp:x.ae=6){kk:Int}(kE:kk=2*(aP x).ch-2∨kk=2*(aP x).ch-1):Mach.take w g kk 7 8=some (w,false)∨∃w' fM,Mach.take w g kk 7 8=some (w',true)∧Inv w' fM∧bK w w':=by
 have L:=I.loc g x hx;have hc:=L.cZ oX oX oX oX oX;have hh:aL x (aP x).ch:=bv6
 have oO:¬aW x:=uy oX;have rl:∀sd,¬eV x sd:=Ca oX;rcases FF I hx (fun h=>bj9) rl hc hh kE 7 8 with h|⟨s,k,l,sd,h1,h2,h3,h4,h5,h6⟩|⟨s,z,sd,y,q',h1,h2,h3,h4,h5,h6,h7,h8,h9,ph,rA,uQ,uu,Dp⟩
 ·exact .inl h
 ·right;obtain⟨m2,m3⟩:=M.p6l L hk hp s;exact⟨_,ls,h1,I.Pe hx hs h2 h3 h4 h5 (.inl rfl) rfl (by rw[h6];exact(m3 _).2 hh) oO rl rfl rfl rfl rfl rfl rfl m2 m3⟩
 ·right;obtain⟨m2,m3⟩:=M.p6c L hk hp s w.av w.av z;have hb:=h2.Kq (x':={x with br:=s,t:=w.av,point:=w.av,bF:=z,ae:=8}) (b:=y.bk) hx hs h6 h7 ph rA Dp h3 h4 h5 h8 (fun h=>aX h h9) (fun _=>rfl) (fun _=>uu) (.inl rfl) rfl (by rw[uQ];exact(m3 _).2 hh) oO rl rfl rfl rfl rfl rfl rfl m2 m3 w.av g;exact⟨_,_,h1,hb.1,(show bK w {w with aw:=q'}from⟨rfl,rfl,rfl,rfl,rfl,rfl⟩).trans hb.2⟩
theorem Kt(Aq:bm x)(oO:¬aW x)(rl:∀sd,¬eV x sd)(lost Eh:Int)(kM:lost≠7∧lost≠26∧lost≠23)(BZ:Inv (w.ay g {x with br:= -1,ae:=lost}) ls∧(∀c,aL {x with br:= -1,ae:=lost} c↔aL x c)):(∃w' fM,rD w g lost Eh=some w'∧Inv w' fM∧bK w w'∧w'={w.ay g {x with br:= -1,ae:=lost}with aw:=w'.aw})∨∃(s z k:Nat) (l:List Nat) (sd:gn) (y:bI),rD w g lost Eh=some ((w.ay z {y with point:=w.av,bF:=g,fire:=sd.case,bk:=true}).ay g {x with t:=w.av,point:=w.av,bF:=z,ae:=Eh})∧x.br=s∧w.ah[s]?=some sd∧sd.cK=true∧sd.g=z∧z≠g∧w.gs[z]?=some y∧eP y s sd∧(aP y).ai=9∧aW y∧y.aN= -1∧aL x sd.ch∧∀(j:Nat) u (s':Nat) sd',w.gs[j]?=some u→aT u→u.br=s'→w.ah[s']?=some sd'→sd'.g≠z:=by
 obtain⟨s,k,l,sd,a1,a2,a3,a4,a5,a6⟩:=I.look g x hx Aq;obtain⟨sd',z,y,b1,b2,b3,b4,b5,b6,b7⟩:=I.EJ k l s a2 a3;rw[a4]at b1;cases b1;have mh:z≠g:=bm6
 have oz:(aP y).ai=9:=by
  exact ba8
 have U1:=I.loc z y b4;have an:nat? x.br=some s:=bu8
 unfold rD;simp only[hx,an,eQ,a4,b3,b4,bW,eN];rw[aE mh]
 cases B9:y.bk with
 |true=>
  left;simp only[dt];have mj:s<w.ah.length:=cA a4
  have SU:1≤sd.ch∧sd.ch≤w.au.length:=by
   rcases b5 with⟨h,_⟩|⟨_,_,oF,c,xz,Ws,_⟩
   ·exact aX oz h
   ·have kM:y.ae≠0∧y.ae≠17∧y.ae≠18∧y.ae≠19:=by
     rcases b6 with⟨h,_⟩|⟨_,h⟩
     ·exact aX oz h
     ·rcases h with⟨h,_⟩|⟨h,_⟩|h|h|⟨h,_⟩|⟨h,_⟩<;>omega
    obtain⟨s1,s2,s3⟩:=U1.oW oz kM.1 kM.2.1 kM.2.2.1 kM.2.2.2;obtain⟨_,c',e1,e2,e3,_⟩:=s1.ord _ (s3.own _ _ oF oX).2;have e4:((sd.case.toNat:Nat):Int).toNat=sd.case.toNat:=oX;rw[e4,xz]at e1
    cases e1;rw[Ws];exact⟨e2,e3⟩
  have eE:(w.ay g {x with br:= -1,ae:=lost}).gs[g]?=some {x with br:= -1,ae:=lost}:=di _ hx;obtain⟨q',d1,d2,d3⟩:=BZ.1.B8 mj (wm BZ.1 eE (fun h=>by unfold bm at h;simp only at h;omega) a4 ((BZ.2 _).2 a6) SU);rw[ky (w2:=w) d1 rfl];exact⟨_,_,rfl,d2,⟨dW hx rfl,rfl,rfl,rfl,rfl,rfl⟩,rfl⟩
 |false=>
  right;simp only[nW,dF]
  have hw:aW y∧y.aN= -1:=by
   exact aB2
  refine⟨s,z,k,l,sd,y,?_,a1,a4,b2,b3,mh,b4,b5,oz,hw.1,hw.2,a6,I.wj a2 a3 a4 b3 b4 (fun _=>B9)⟩;have kt:((w.ay z {y with bk:=true}).ay g {x with t:=w.av}).gs[g]?=some {x with t:=w.av}:=by apply di (x:=x);show(w.gs.set z _)[g]?=_;rw[gd _ (dE mh)];exact hx
  have rN:((w.ay z {y with bk:=true}).ay g {x with t:=w.av}).gs[z]?=some {y with bk:=true}:=bs3
  rw[Kp (sd:=sd) kt a4 b3 rN mh];simp only[eN];have nM:((((w.ay z {y with bk:=true}).ay g {x with t:=w.av}).ay g {x with t:=w.av,point:=w.av,bF:=z}).ay z {y with bk:=true,point:=w.av,bF:=g,fire:=sd.case}).gs[g]?=some {x with t:=w.av,point:=w.av,bF:=z}:=by show((((w.gs.set z _).set g _).set g _).set z _)[g]?=_;rw[gd _ (dE mh)];exact di (x:={x with t:=w.av}) _ kt
  rw[wa nM];simp only[oZ];unfold Wd.ay;simp only[Wd.mk.injEq,true_and,and_true];apply List.ext_getElem?;intro i;by_cases h1:i=g
  ·subst h1;have hg:i<w.gs.length:=cA hx;simp[sW,hg]
  ·by_cases h2:i=z
   ·subst h2;have Ay:i<w.gs.length:=cA b4;simp[sW,Ay,h1,dE h1]
   ·simp[sW,dE h1,dE h2]
theorem FG(hs:Na w g)(hk:2≤(aP x).ai∧(aP x).ai≤5)(hp:x.ae=7):∃w' fM,rD w g 6 8=some w'∧Inv w' fM∧bK w w':=by
 have L:=I.loc g x hx;have oO:¬aW x:=uy oX;have rl:∀sd,¬eV x sd:=Ca oX;have Nv:∀c,aL x c→c=(aP x).ch:=fun c h=>by unfold aL at h;rw[aE oX]at h;exact h.2
 obtain⟨m2,m3⟩:=M.p7l L hk hp;have F:=I.ku hx hs (x':={x with br:= -1,ae:=6}) (wu rfl oO (uy sX) rl (fun h=>bl7) (fun h=>bk9) rfl rfl rfl rfl) ⟨sX,sX⟩ m2 m3 rfl;rcases Kt I hx (.inl hp) oO rl 6 8 oX ⟨F.1,m3⟩with⟨w',fM,h1,h2,h3,_⟩|⟨s,z,k,l,sd,y,h1,h2,h3,h4,h5,h6,h7,h8,h9,ph,rA,uQ,uu⟩
 ·exact⟨w',fM,h1,h2,h3⟩
 ·obtain⟨m2,m3⟩:=M.p7c L hk hp w.av w.av z;exact⟨_,ls,h1,I.Kq (x':={x with t:=w.av,point:=w.av,bF:=z,ae:=8}) hx hs h6 h7 ph rA uu h3 h4 h5 h8 (fun _=>rfl) (fun h=>aX h9 h) (fun h=>aX h9 h) (.inl rfl) h2 ((m3 _).2 uQ) oO rl rfl rfl rfl rfl rfl rfl m2 m3 w.av g⟩
end
theorem Inv.Pf(I:Inv w ls)(c:Nat){r:Ring}(hr:r.Ok):Inv (w.dZ c r) ls∧bK w (w.dZ c r):=by
 have cP:(w.dZ c r).au.length=w.au.length:=by simp[Wd.dZ]
 refine⟨⟨I.n8,I.ax,by rw[cP];exact I.c8,by rw[cP];exact I.aO,by rw[cP];exact I.aq,fun r' h=>?_,I.JZ,I.aS,I.bM,I.Eg,I.q,by rw[cP];exact I.loc,I.lock,I.cK,I.bY,I.bA,I.EJ,I.look,I.claim,I.pE,I.served,I.st,I.jn,I.pg,I.rf⟩,rfl,rfl,rfl,rfl,rfl,cP⟩;simp only[Wd.dZ]at h;rcases List.mem_or_eq_of_mem_set h with h|h
 ·exact I.au r' h
 ·rw[h];exact hr
section
variable(I:Inv w ls)(hx:w.gs[g]?=some x)
include I hx
theorem Ku(hp:x.ae=8∨x.ae=27∨x.ae=22∨x.ae=23∨x.ae=32){c:Int}(h:aL x c):1≤c∧c≤w.au.length:=by
 have L:=I.loc g x hx;by_cases hk:(aP x).ai=9
 ·unfold aL at h;rw[aF hk]at h;exact(L.oW hk oX oX oX oX).1.lk c (List.mem_of_mem_take h)
 ·unfold aL at h;rw[aE hk]at h;rw[h.2];exact L.cZ hk oX oX oX oX
theorem Inv.Pg(hs:Na w g)(hc:aT x)(oO:¬aW x)(rl:∀sd,¬eV x sd)(ON:x.br=s):∃(z:Nat) (sd:gn) (y:bI) (q':bf),fZ w s=some {w with aw:=q'}∧w.ah[s]?=some sd∧sd.g=z∧z≠g∧w.gs[z]?=some y∧aL x sd.ch∧∀(W:Wd),(W=({w with aw:=q'}:Wd)∨∃c r,r.Ok∧W=({w with aw:=q'}:Wd).dZ c r)→∀sd',uW sd' sd→∀xA:bI,(xA.ae=16∨xA.ae=22∨xA.ae=30∧xA.res.aJ=1)→¬aW xA→xA.ops=x.ops→xA.at_=x.at_→xA.bY=x.bY→xA.bA=x.bA→xA.wakes=x.wakes→xA.aN=x.aN→Loc w.au.length xA→(∀c,aL xA c↔aL x c)→Inv (((W.cJ s sd').ay z {y with aN:=s}).ay g {xA with wakes:=x.wakes++[(z:Int)]}) (iA ls s)∧bK w (((W.cJ s sd').ay z {y with aN:=s}).ay g {xA with wakes:=x.wakes++[(z:Int)]}):=by
 obtain⟨s0,z,sd,y,h1,h2,h3,h4,h5,h6,h7,h8,h9,ph,rA,uQ,uu⟩:=I.claim g x hx hc;obtain rfl:s0=s:=oX
 have Nh:x.ae=8∨x.ae=27:=hc;have mj:s0<w.ah.length:=cA h2;obtain⟨q',d1,d2,d3⟩:=I.B8 mj (wm I hx (fun h=>bj9) h2 uu (Ku I hx oX uu));refine⟨z,sd,y,q',d1,h2,h4,h5,h6,uu,?_⟩;intro W hW sd' FH xA hpA tY e0 e1 e2 e3 e4 e5 hL hh
 have hWI:Inv W (iA ls s0)∧bK w W∧W.gs=w.gs∧W.ah=w.ah∧W.ax=w.ax:=by
  rcases hW with rfl|⟨c,r,hr,rfl⟩
  ·exact⟨d2,⟨rfl,rfl,rfl,rfl,rfl,rfl⟩,rfl,rfl,rfl⟩
  ·obtain⟨a,b⟩:=d2.Pf c hr;exact⟨a,(show bK w {w with aw:=q'}from⟨rfl,rfl,rfl,rfl,rfl,rfl⟩).trans b,rfl,rfl,rfl⟩
 obtain⟨IW,KW,eg,es,eb⟩:=hWI;have h2W:W.ah[s0]?=some sd:=by rw[es];exact h2
 have I1:=IW.ZG h2W FH;have eE:(W.cJ s0 sd').gs[g]?=some x:=by show W.gs[g]?=_;rw[eg];exact hx
 have rh:Na (W.cJ s0 sd') g:=by unfold Na;show ∃t,W.ax[g]?=_;rw[eb];exact hs
 have Ph:¬aT xA:=fun h=>bk2
 have SV:¬bm xA:=fun h=>bj9
 obtain⟨I2,K2⟩:=I1.ku eE rh (wu (oM e0 e1) oO tY rl Ph SV e2 e3 e4 e5) ⟨fun h=>oX,oX⟩ (by show Loc W.au.length xA;rw[KW.au];exact hL) hh e0;have ZR:((W.cJ s0 sd').ay g xA).gs[g]?=some xA:=di _ eE;have hyA:((W.cJ s0 sd').ay g xA).gs[z]?=some y:=by show(W.gs.set g xA)[z]?=_;rw[gd _ h5,eg];exact h6
 have FI:((W.cJ s0 sd').ay g xA).ah[s0]?=some sd':=qN _ h2W
 have Ft:∀(j:Nat) u (s':Nat) AU,((W.cJ s0 sd').ay g xA).gs[j]?=some u→aT u→u.br=s'→((W.cJ s0 sd').ay g xA).ah[s']?=some AU→AU.g≠z:=by
  intro j u s' AU hu G9 SR vz hg;have Wu:(W.gs.set g xA)[j]?=some u:=hu;rcases cX (by rw[eg];exact hx) Wu with⟨_,h⟩|⟨cM,Nw⟩
  ·subst h;exact Ph G9
  ·rw[eg]at Nw
   have OT:∃ZK,w.ah[s']?=some ZK∧ZK.g=AU.g:=by
    have Pj:(W.ah.set s0 sd')[s']?=some AU:=vz;rcases Di h2W Pj with⟨rfl,rfl⟩|⟨_,h⟩
    ·exact⟨sd,h2,FH.2.1.symm⟩
    ·exact⟨AU,by rw[←es];exact h,rfl⟩
   obtain⟨ZK,b1,b2⟩:=OT;exact cM (I.pE j u g x s' s0 ZK sd Nw G9 hx hc SR ON b1 h2 oX)
 obtain⟨I3,K3⟩:=I2.OX ZR hpA tY hyA h8 h9 Ft FI (FH.1.trans h3) (FH.2.1.trans h4) (FH.owns.2 h7) (ph.trans FH.2.2.2.1.symm) rA d3;have K:=KW.trans ((show bK W (W.cJ s0 sd')from⟨rfl,rfl,rfl,rfl,rfl,rfl⟩).trans (K2.trans K3));have e:((((W.cJ s0 sd').ay g xA).ay z {y with aN:=s0}).ay g {xA with wakes:=xA.wakes++[(z:Int)]})=(((W.cJ s0 sd').ay z {y with aN:=s0}).ay g {xA with wakes:=x.wakes++[(z:Int)]}):=by rw[e4,sR _ (dE h5),cY]
 rw[e]at I3 K;exact⟨I3,K⟩
theorem Dq(hs:Na w g)(hk:(aP x).ai=2∨(aP x).ai=4)(hp:x.ae=8)(v:Int):∃w' fM,lp w g v=some w'∧Inv w' fM∧bK w w':=by
 have L:=I.loc g x hx;have oO:¬aW x:=uy oX;obtain⟨s,ON⟩:=pz (L.br (.inl (.inl hp)));obtain⟨z,sd,y,q',d1,d2,d3,d4,d5,d6,F⟩:=I.Pg hx hs (.inl hp) oO (Ca oX) ON;obtain⟨m2,m3⟩:=M.p8 L oX hp (bZ 1) rfl;have F:=F _ (.inl rfl) {sd with v:=v,done:=true} ⟨rfl,rfl,rfl,rfl,rfl⟩ {x with res:=bZ 1,br:= -1,ae:=16} (.inl rfl) (uy sX) rfl rfl rfl rfl rfl rfl m2 m3;have hn:nat? x.br=some s:=bq3
 unfold lp;simp only[hx,hn,d1,d2,bW,eN];rw[sh (w:=({w with aw:=q'}:Wd).cJ s {sd with v:=v}) (z:=z) (y:=y) (sd:={sd with v:=v}) hx (qN _ d2) d3 d5 d4 bo9];simp only[eN];rw[qK (x:={x with wakes:=x.wakes++[(z:Int)],br:= -1}) (di (x:=x) _ bl9)];refine⟨_,iA ls s,rfl,?_⟩;rw[cY];have e:((({w with aw:=q'}:Wd).cJ s {sd with v:=v}).cJ s {sd with v:=v,done:=true})=({w with aw:=q'}:Wd).cJ s {sd with v:=v,done:=true}:=by unfold Wd.cJ;simp only[my]
 rw[e];exact F
theorem Dr(hs:Na w g)(hk:(aP x).ai=3∨(aP x).ai=5)(hp:x.ae=8):∃w' fM,pZ w g (aP x).ch=some w'∧Inv w' fM∧bK w w':=by
 have L:=I.loc g x hx;have oO:¬aW x:=uy oX;obtain⟨s,ON⟩:=pz (L.br (.inl (.inl hp)));obtain⟨z,sd,y,q',d1,d2,d3,d4,d5,d6,F⟩:=I.Pg hx hs (.inl hp) oO (Ca oX) ON;have hn:nat? x.br=some s:=bq3
 have hc:=L.cZ oX oX oX oX oX;obtain⟨hm,r,hr,ok⟩:=gz I hc
 have hR:∃w2 v,ik ({w with aw:=q'}:Wd) (aP x).ch s=some (w2,v)∧(w2=({w with aw:=q'}:Wd)∨∃c r,r.Ok∧w2=({w with aw:=q'}:Wd).dZ c r):=by
  have Ht:cZ ({w with aw:=q'}:Wd) (aP x).ch=true:=hm;have hT:kq ({w with aw:=q'}:Wd) (aP x).ch=some (((aP x).ch-1).toNat,r):=hr;exact ba0
 obtain⟨W,v,jk,nt⟩:=hR;obtain⟨m2,m3⟩:=M.p8 L oX hp {aJ:=1,case:= -1,v:=v,ok:=true} rfl;have F:=F W nt {sd with done:=true} ⟨rfl,rfl,rfl,rfl,rfl⟩ {x with res:={aJ:=1,case:= -1,v:=v,ok:=true},br:= -1,ae:=16} (.inl rfl) (uy sX) rfl rfl rfl rfl rfl rfl m2 m3;have zd:W.gs=w.gs∧W.ah=w.ah:=by rcases nt with rfl|⟨c,r,_,rfl⟩<;>exact⟨rfl,rfl⟩
 unfold pZ;simp only[hx,hn,d1,jk,bW,eN];rw[sh (w:=W) (z:=z) (y:=y) (sd:=sd) (x:=x) (by rw[zd.1];exact hx) (by rw[zd.2];exact d2) d3 (by rw[zd.1];exact d5) d4 bo9];exact bv2
end
end
section
variable{w w' w2:Wd}{ls:List (List Nat)}{g z s:Nat}{x x' xA y:bI}{sd:gn}
theorem Inv.ZS{k:Nat}{l:List Nat}{b:Bool}(I:Inv w ls)(hx:w.gs[g]?=some x)(hs:Na w g)(oO:¬aW x)(rl:∀sd,¬eV x sd)(hl:ls[k]?=some l)(hm:s∈l)(h1:w.ah[s]?=some sd)(h2:sd.cK=true)(h3:sd.g=z)(hy:w.gs[z]?=some y)(ho:eP y s sd)(hw:aW y)(hp:y.aN= -1)(B9:(aP y).ai=9→y.bk=false)(ZP:(aP y).ai=9→b=true)(Hy:(aP y).ai≠9→b=y.bk)(bO:aL x sd.ch)(YX:1≤sd.ch∧sd.ch≤w.au.length)(hpA:xA.ae=22)(e0:xA.ops=x.ops)(e1:xA.at_=x.at_)(e2:xA.bY=x.bY)(e3:xA.bA=x.bA)(e4:xA.wakes=x.wakes)(e5:xA.aN=x.aN)(hL:Loc w.au.length xA)(hh:∀c,aL xA c↔aL x c):∃q',fZ w s=some {w with aw:=q'}∧z≠g∧Inv (((({w with aw:=q'}:Wd).cJ s {sd with done:=false}).ay z {y with point:=w.av,fire:=sd.case,bk:=b,aN:=s}).ay g {xA with wakes:=x.wakes++[(z:Int)]}) (iA ls s)∧bK w (((({w with aw:=q'}:Wd).cJ s {sd with done:=false}).ay z {y with point:=w.av,fire:=sd.case,bk:=b,aN:=s}).ay g {xA with wakes:=x.wakes++[(z:Int)]}):=by
 have mh:z≠g:=by rintro rfl;rw[hx]at hy;cases hy;exact oO hw
 have Ph:¬aT xA:=fun h=>bk2
 have SV:¬bm xA:=fun h=>bj9
 have tY:¬aW xA:=uy oX;have mj:s<w.ah.length:=cA h1;have ZT:=I.wj hl hm h1 h3 hy B9;obtain⟨I1,K1⟩:=I.ku hx hs (wu (oM e0 e1) oO tY rl Ph SV e2 e3 e4 e5) ⟨fun h=>oX,oX⟩ hL hh e0;have eE:(w.ay g xA).gs[g]?=some xA:=di _ hx;obtain⟨q',d1,d2,d3⟩:=I1.B8 mj (wm I1 eE SV h1 ((hh _).2 bO) YX);have FH:uW {sd with done:=false} sd:=⟨rfl,rfl,rfl,rfl,rfl⟩;have I3:=d2.ZG (s:=s) (sd:=sd) (sd':={sd with done:=false}) h1 FH;have ZU:(({(w.ay g xA)with aw:=q'}:Wd).cJ s {sd with done:=false}).gs[z]?=some y:=by show(w.gs.set g xA)[z]?=_;rw[gd _ mh];exact hy
 have hf:(aP y).ai≠9→sd.case= -1:=fun hk=>by
  rcases ho with⟨_,_,h,_⟩|⟨h,_⟩
  ·exact h
  ·exact aX h hk
 have Ft:∀(j:Nat) u (s':Nat) AU,(({(w.ay g xA)with aw:=q'}:Wd).cJ s {sd with done:=false}).gs[j]?=some u→aT u→u.br=s'→(({(w.ay g xA)with aw:=q'}:Wd).cJ s {sd with done:=false}).ah[s']?=some AU→AU.g≠z:=by
  intro j u s' AU hu G9 SR vz;have Wu:(w.gs.set g xA)[j]?=some u:=hu;rcases cX hx Wu with⟨_,h⟩|⟨cM,Nw⟩
  ·subst h;exact aX G9 Ph
  ·have Pj:(w.ah.set s {sd with done:=false})[s']?=some AU:=vz;rcases Di h1 Pj with⟨rfl,rfl⟩|⟨_,h⟩
   ·exact ZT j u s' sd Nw G9 SR h1
   ·exact ZT j u s' AU Nw G9 SR h
 obtain⟨I4,K4⟩:=I3.UY ZU hw hp Ft w.av y.bF sd.case b hf Hy;have vB:((({(w.ay g xA)with aw:=q'}:Wd).cJ s {sd with done:=false}).ay z {y with point:=w.av,bF:=y.bF,fire:=sd.case,bk:=b}).gs[g]?=some xA:=by show((w.gs.set g xA).set z _)[g]?=_;rw[gd _ (dE mh)];exact eE
 have hy4:((({(w.ay g xA)with aw:=q'}:Wd).cJ s {sd with done:=false}).ay z {y with point:=w.av,bF:=y.bF,fire:=sd.case,bk:=b}).gs[z]?=some {y with point:=w.av,bF:=y.bF,fire:=sd.case,bk:=b}:=di _ ZU
 have ap7:∀(j:Nat) u (s':Nat) AU,((({(w.ay g xA)with aw:=q'}:Wd).cJ s {sd with done:=false}).ay z {y with point:=w.av,bF:=y.bF,fire:=sd.case,bk:=b}).gs[j]?=some u→aT u→u.br=s'→((({(w.ay g xA)with aw:=q'}:Wd).cJ s {sd with done:=false}).ay z {y with point:=w.av,bF:=y.bF,fire:=sd.case,bk:=b}).ah[s']?=some AU→AU.g≠z:=by
  intro j u s' AU hu G9 SR vz;have Wu:((w.gs.set g xA).set z {y with point:=w.av,bF:=y.bF,fire:=sd.case,bk:=b})[j]?=some u:=hu;rcases cX (show(w.gs.set g xA)[z]?=some y from ZU) Wu with⟨_,h⟩|⟨cM,Nw⟩
  ·subst h;exact aX G9 (xZ (iB hw)).1
  ·exact Ft j u s' AU Nw G9 SR vz
 obtain⟨I5,K5⟩:=I4.OX vB (.inr (.inl hpA)) tY hy4 hw hp ap7 (qN _ h1) h2 h3 ho rfl ZP d3
 have e:((((({(w.ay g xA)with aw:=q'}:Wd).cJ s {sd with done:=false}).ay z {y with point:=w.av,bF:=y.bF,fire:=sd.case,bk:=b}).ay z {y with point:=w.av,bF:=y.bF,fire:=sd.case,bk:=b,aN:=s}).ay g {xA with wakes:=xA.wakes++[(z:Int)]})=
   (((({w with aw:=q'}:Wd).cJ s {sd with done:=false}).ay z {y with point:=w.av,fire:=sd.case,bk:=b,aN:=s}).ay g {xA with wakes:=x.wakes++[(z:Int)]}):=by
  rw[e4,cY];show((((({w with aw:=q'}:Wd).cJ s {sd with done:=false}).ay g xA).ay z _).ay g _)=_;rw[sR _ (dE mh),cY]
 rw[e]at I5;have K:=K1.trans ((show bK (w.ay g xA) (({(w.ay g xA)with aw:=q'}:Wd).cJ s {sd with done:=false})from⟨rfl,rfl,rfl,rfl,rfl,rfl⟩).trans (K4.trans K5));rw[e]at K;exact⟨q',ky (w2:=w) d1 rfl,mh,I5,K⟩
theorem Kv{q':bf}(hx:w.gs[g]?=some x)(hh:x.br=s)(hd:fZ w s=some {w with aw:=q'})(h1:w.ah[s]?=some sd)(h3:sd.g=z)(hy:w.gs[z]?=some y)(mh:z≠g)(V5:x.wakes.length<1000000):yo w g=some (((({w with aw:=q'}:Wd).cJ s {sd with done:=false}).ay z {y with point:=w.av,fire:=sd.case,aN:=s}).ay g {x with t:=w.av,wakes:=x.wakes++[(z:Int)],br:= -1}):=by
 have hn:nat? x.br=some s:=by rw[hh];exact eQ s
 unfold yo;simp only[hx,hn,bW,eN];rw[ky (w2:=w.ay g {x with t:=w.av}) hd rfl];simp only[eN];have Vq:({(w.ay g {x with t:=w.av})with aw:=q'}:Wd).ah[s]?=some sd:=h1;have uO:({(w.ay g {x with t:=w.av})with aw:=q'}:Wd).gs[z]?=some y:=by show(w.gs.set g _)[z]?=_;rw[gd _ mh];exact hy
 simp only[Vq,h3,eQ,uO,eN];rw[aE mh]
 refine(sh (w:=({(w.ay g {x with t:=w.av})with aw:=q'}:Wd).ay z {y with point:=w.av,fire:=sd.case}) (x:={x with t:=w.av}) (y:={y with point:=w.av,fire:=sd.case}) (z:=z) (sd:=sd)
  (by show((w.gs.set g _).set z _)[g]?=_;rw[gd _ (dE mh)];exact di _ hx) Vq h3 (di (x:=y) _ uO) mh V5 false).trans ?_
 congr 1;show((((({w with aw:=q'}:Wd).cJ s {sd with done:=false}).ay g {x with t:=w.av}).ay z {y with point:=w.av,fire:=sd.case}).ay z {y with point:=w.av,fire:=sd.case,aN:=s}).ay g _=_;rw[cY,sR _ (dE mh),cY,h3];try rfl
section
variable(I:Inv w ls)(hx:w.gs[g]?=some x)(hs:Na w g)(hk:(aP x).ai=6)
include I hx hs hk
theorem L8(hp:x.ae=22):∃w' fM,qt w g (aP x).ch=some w'∧Inv w' fM∧bK w w':=by
 have L:=I.loc g x hx;have hc:=L.cZ oX oX oX oX oX;have hh:aL x (aP x).ch:=bv6
 have oO:¬aW x:=uy oX;have rl:∀sd,¬eV x sd:=Ca oX;have hc8:=I.c8
 have Wv:(sK w (aP x).ch).2=false∨∃kk:Int,(kk=2*(aP x).ch-2∨kk=2*(aP x).ch-1)∧sK w (aP x).ch=w.aw.first kk∧(w.aw.first kk).2=true:=by
  unfold sK;by_cases h1:(w.aw.first (2*(aP x).ch-2)).2=true
  ·rw[aF h1];exact .inr ⟨_,.inl rfl,rfl,h1⟩
  ·rw[aE h1]
   cases h2:(w.aw.first (2*(aP x).ch-1)).2 with
   |false=>exact .inl rfl
   |true=>exact .inr ⟨_,.inr rfl,rfl,h2⟩
 unfold qt;rcases Wv with hf|⟨kk,kE,hf,hf2⟩
 ·simp only[hx,hf,dt,bW,eN];obtain⟨m1,m2,m3⟩:=M.h22 L hk hp;exact⟨_,ls,wa hx 16,I.ku hx hs m1 ⟨sX,sX⟩ m2 m3 rfl⟩
 ·rcases Kr I (kk:=kk) oX with h|⟨s,z,l,sd,y,h1,h2,h3,h4,h5,h6,h7,h8,h9,ph⟩
  ·rw[h]at hf2;cases hf2
  ·have bO:=Ks kE ph;rw[hf,h1];simp only[hx,h4,eQ,aH6,dF,bW,eN];by_cases lR:0≤sd.case
   ·rw[aF lR];obtain⟨m2,m3⟩:=M.ao4 L hk hp s;exact⟨_,ls,rfl,I.Pe hx hs h2 h3 h4 lR (.inr (.inr rfl)) rfl (by rw[bO];exact(m3 _).2 hh) oO rl rfl rfl rfl rfl rfl rfl m2 m3⟩
   ·rw[aE lR]
    have jA:(aP y).ai≠9:=by
     exact bd5
    have oF:sd.case= -1:=by
     rcases h8 with⟨_,_,h,_⟩|⟨h,_⟩
     ·exact h
     ·exact aX h jA
    rw[aF oF]
    have SS:aW y∧y.aN= -1:=by
     exact ba4
    obtain⟨m2,m3⟩:=M.ao5 L hk hp w.av;obtain⟨q',d1,d2,d3,d4⟩:=I.ZS (xA:={x with br:= -1,t:=w.av,ae:=22}) (b:=y.bk) hx hs oO rl h2 h3 h4 h5 h6 h7 h8 SS.1 SS.2 (fun h=>aX h jA) (fun h=>aX h jA) (fun _=>rfl) (by rw[bO];exact hh) (by rw[bO];exact hc) rfl rfl rfl rfl rfl rfl rfl m2 m3;have eE:(w.ay g {x with br:=s}).gs[g]?=some {x with br:=s}:=di _ hx;rw[Kv (q':=q') (sd:=sd) (z:=z) (y:=y) eE rfl (ky d1 rfl) h4 h6 (by show(w.gs.set g _)[z]?=_;rw[gd _ d2];exact h7) d2 (by have:=I.sj hx;simp only;omega)];refine⟨_,iA ls s,rfl,?_⟩
    have e:(((({(w.ay g {x with br:=s})with aw:=q'}:Wd).cJ s {sd with done:=false}).ay z {y with point:=w.av,fire:=sd.case,aN:=s}).ay g {x with br:= -1,t:=w.av,wakes:=x.wakes++[(z:Int)]})=
      (((({w with aw:=q'}:Wd).cJ s {sd with done:=false}).ay z {y with point:=w.av,fire:=sd.case,bk:=y.bk,aN:=s}).ay g {x with br:= -1,t:=w.av,ae:=22,wakes:=x.wakes++[(z:Int)]}):=by
     rw[←hp];show(((({w with aw:=q'}:Wd).cJ s {sd with done:=false}).ay g {x with br:=s}).ay z _).ay g _=_;rw[sR _ (dE d2),cY]
    exact⟨e▸d3,e▸d4⟩
theorem Dt(hp:x.ae=23):∃w' fM,ly w g=some w'∧Inv w' fM∧bK w w':=by
 have L:=I.loc g x hx;have oO:¬aW x:=uy oX;have rl:∀sd,¬eV x sd:=Ca oX;obtain⟨s,k,l,sd,a1,a2,a3,a4,a5,a6⟩:=I.look g x hx (.inr (.inr hp));obtain⟨sd',z,y,b1,b2,b3,b4,b5,b6,b7⟩:=I.EJ k l s a2 a3;rw[a4]at b1;cases b1;have mh:z≠g:=bm6
 have oz:(aP y).ai=9:=by
  exact ba8
 have U1:=I.loc z y b4;have SU:=Ku I hx oX a6;have mj:s<w.ah.length:=cA a4;have hn:nat? x.br=some s:=bu8
 unfold ly;simp only[hx,hn,eQ,a4,b3,b4,bW,eN];rw[aE mh]
 cases B9:y.bk with
 |true=>
  simp only[dt];obtain⟨m2,m3⟩:=M.ao6 L hk hp;have F:=I.ku hx hs (x':={x with br:= -1,ae:=22}) (wu rfl oO (uy sX) rl (fun h=>bl7) (fun h=>bk9) rfl rfl rfl rfl) ⟨sX,sX⟩ m2 m3 rfl;have eE:(w.ay g {x with br:= -1,ae:=22}).gs[g]?=some {x with br:= -1,ae:=22}:=di _ hx;obtain⟨q',d1,d2,d3⟩:=F.1.B8 mj (wm F.1 eE (fun h=>bk9) a4 ((m3 _).2 a6) SU);rw[ky (w2:=w) d1 rfl];exact⟨_,_,rfl,d2,⟨dW hx rfl,rfl,rfl,rfl,rfl,rfl⟩⟩
 |false=>
  simp only[nW,dF]
  have hw:aW y∧y.aN= -1:=by
   exact aB2
  obtain⟨m2,m3⟩:=M.ao7 L hk hp w.av;obtain⟨q',d1,d2,d3,d4⟩:=I.ZS (xA:={x with br:= -1,t:=w.av,ae:=22}) (b:=true) hx hs oO rl a2 a3 a4 b2 b3 b4 b5 hw.1 hw.2 (fun _=>B9) (fun _=>rfl) (fun h=>aX oz h) a6 SU rfl rfl rfl rfl rfl rfl rfl m2 m3;have eE:(w.ay z {y with bk:=true}).gs[g]?=some x:=bm1
  rw[Kv (q':=q') (sd:=sd) (z:=z) (y:={y with bk:=true}) eE a1 (ky d1 rfl) a4 b3 (di _ b4) mh bo9];simp only[eN];rw[wa (x:={x with t:=w.av,wakes:=x.wakes++[(z:Int)],br:= -1}) (di (x:=x) _ bq8)];refine⟨_,iA ls s,rfl,?_⟩
  have e:((((({(w.ay z {y with bk:=true})with aw:=q'}:Wd).cJ s {sd with done:=false}).ay z {y with bk:=true,point:=w.av,fire:=sd.case,aN:=s}).ay g {x with t:=w.av,wakes:=x.wakes++[(z:Int)],br:= -1}).ay g {x with t:=w.av,wakes:=x.wakes++[(z:Int)],br:= -1,ae:=22})=
    (((({w with aw:=q'}:Wd).cJ s {sd with done:=false}).ay z {y with point:=w.av,fire:=sd.case,bk:=true,aN:=s}).ay g {x with br:= -1,t:=w.av,ae:=22,wakes:=x.wakes++[(z:Int)]}):=by
   exact be2
  exact⟨e▸d3,e▸d4⟩
end
theorem Inv.ZV(I:Inv w ls)(hg:g<w.gs.length)(eK:(w.Eg.take g).2.2=true)(sd':gn):∃(j:Nat) (Nf:gn),(w.Eg.take g).2.1=j∧w.ah[j]?=some Nf∧Inv ({w.cJ j sd' with Eg:=(w.Eg.take g).1}:Wd) ls∧(∀(i:Nat) u,w.gs[i]?=some u→∀sd,w.ah[j]?=some sd→sd.cK=true→False):=by
 obtain⟨j,h1,h2,h3,h4,h5,h6⟩:=(we I.Eg hg).1 eK;obtain⟨Nf,RY⟩:∃Nf,w.ah[j]?=some Nf:=⟨_,fv h2⟩;have RE:∀sd,w.ah[j]?=some sd→sd.cK=true→False:=fun sd hs hl=>by have:=I.cK j sd hs hl;rw[h3]at this;cases this
 exact⟨j,Nf,h1,RY,I.Wk RY (fun hl=>aX hl (fun h=>RE Nf RY h)) h6 h5 (fun _=>h4),fun i u hu sd hs hl=>RE sd hs hl⟩
section
variable(I:Inv w ls)(hx:w.gs[g]?=some x)
include I hx
theorem FJ(hs:Na w g)(hk:(aP x).ai=2∨(aP x).ai=3)(hp:x.ae=10)(sd':gn)(h1:sd'.cK=true)(h2:sd'.g=g)(h3:sd'.case= -1)(h4:sd'.ch=(aP x).ch)(h5:sd'.cF=decide ((aP x).ai=2)):∃w',rE w g sd'=some w'∧Inv w' ls∧bK w w':=by
 have L:=I.loc g x hx;have hg:g<w.gs.length:=cA hx;have oN:¬aW x:=uy oX;have oo:=L.yC oX;unfold rE;simp only[hx,bW,eN]
 cases eK:(w.Eg.take g).2.2 with
 |true=>
  obtain⟨j,Nf,e1,e2,I1,_⟩:=I.ZV hg eK sd';simp only[dt,e1,eQ,e2,eN];obtain⟨m2,m3⟩:=M.p10 L hk hp j;refine⟨_,rfl,?_⟩;have eE:({w.cJ j sd' with Eg:=(w.Eg.take g).1}:Wd).gs[g]?=some x:=hx;have W:=I1.jU (x':={x with bY:=(j:Int),ae:=11}) eE (List.Sublist.refl _)
  have I2:Inv (({w.cJ j sd' with Eg:=(w.Eg.take g).1}:Wd).ay g {x with bY:=(j:Int),ae:=11}) ls:=
   I1.mn eE m2 (fun k l s sd _ _ _ _ a c=>aX c (Ca oX sd)) (fun s h=>by
     simp only at h;obtain rfl:s=j:=oX
     exact⟨sd',qN _ e2,h1,h2,.inl ⟨bl4,rfl,h3,h4,h5⟩⟩) (fun i s h=>by simp only[oo]at h;simp at h) (fun j u s sd _ _ _ _ _ _ a b _ _ _=>aX b oN) (fun h=>bl7) (fun h=>bk9)
    (fun s h=>by have:=L.aN.2 oN;simp only at h;omega) W.1 W.2 rfl rfl rfl I1.au rfl rfl (I1.lock.same eE m3) rfl rfl rfl (I1.st.same eE hs (fun h=>aX h oN) rfl sX sX) (I1.jn.same eE (fun h=>aX h oN) rfl rfl sX)
  exact⟨I2,dW hx rfl,rfl,rfl,rfl,rfl,rfl⟩
 |false=>
  simp only[nW,dF];obtain⟨m1,m2,m3⟩:=M.V1 L hk hp;exact⟨w.ay g {x with res:={x.res with aJ:=6},ae:=16},(by rw[(we I.Eg hg).2 eK]),I.ku hx hs m1 ⟨sX,sX⟩ m2 m3 rfl⟩
theorem Cd(hs:Na w g)(hk:(aP x).ai=2∨(aP x).ai=3)(hp:x.ae=11){kk:Int}(kE:kk=if(aP x).ai=2 then 2*(aP x).ch-1 else 2*(aP x).ch-2):∃w' fM,rF w g kk=some w'∧Inv w' fM∧bK w w':=by
 have L:=I.loc g x hx;have hc:=L.cZ oX oX oX oX oX;have hc8:=I.c8;have oN:¬aW x:=uy oX;obtain⟨s,hm⟩:=pz (L.bY oX oX);obtain⟨sd,h1,h2,h3,h4⟩:=I.bY g x s hx hm;obtain⟨m2,m3⟩:=M.p11 L hk hp w.av;have oE:=L.aN.2 oN;have K:=I.iQ (x':={x with bJ:=w.av,ae:=12}) hx rfl rfl rfl;have W:=I.jU (x':={x with bJ:=w.av,ae:=12}) hx (List.Sublist.refl _)
 have I1:Inv (w.ay g {x with bJ:=w.av,ae:=12}) ls:=
  I.mn hx m2 (fun k l s sd _ _ _ _ a c=>aX c (Ca oX sd)) K.1 K.2.1 (fun j u s sd _ _ _ _ _ _ a b _ _ _=>aX b oN) (fun h=>bl7) (fun h=>bk9)
   (fun s h=>bj6) W.1 W.2 rfl rfl rfl I.au rfl rfl (I.lock.same hx m3) rfl rfl rfl (I.st.same hx hs (fun h=>aX h oN) rfl sX sX) (I.jn.same hx (fun h=>aX h oN) rfl rfl sX)
 have hq:kk=Lh sd:=by
  rcases h4 with⟨_,_,_,bO,Ar⟩|⟨h,_⟩
  ·unfold Lh;rw[kE,bO,Ar];by_cases h2:(aP x).ai=2
   ·rw[aF h2,aF bp5]
   ·rw[aE h2,aE bp5]
  ·omega
 have hk0:0≤kk∧kk<16:=by rw[kE];split<;>omega
 obtain⟨k,jA⟩:=pz hk0.1;subst jA;have eE:(w.ay g {x with bJ:=w.av,ae:=12}).gs[g]?=some {x with bJ:=w.av,ae:=12}:=di _ hx
 obtain⟨q',l,p1,p2,p3⟩:=I1.UX (s:=s) (k:=k) (g:=g) (sd:=sd) h1 h2 h3 eE h4 (.inl ⟨bl4,.inl rfl,oE⟩) hq oX
  (fun k' l' hl' Ht=>by
   obtain⟨AU,g2,x2,b1,b2,b3,b4,b5,b6,_⟩:=I.EJ k' l' s hl' Ht;rw[h1]at b1;cases b1;obtain rfl:g2=g:=oX
   rw[hx]at b4;cases b4;exact Ca oX sd b6)
  (fun _ j u hu G9 SR=>by
   have Wu:(w.gs.set g {x with bJ:=w.av,ae:=12})[j]?=some u:=hu;rcases cX hx Wu with⟨_,h⟩|⟨cM,Nw⟩
   ·subst h;unfold aT at G9;simp at G9
   ·obtain⟨s2,z,AU,y,b1,b2,b3,b4,b5,b6,b7,b8,_⟩:=I.claim j u Nw G9;obtain rfl:s2=s:=by omega
    rw[h1]at b2;cases b2;obtain rfl:z=g:=oX
    rw[hx]at b6;cases b6;exact oN b8)
 have Kw:lh w k s=some {w with aw:=q'}:=by
  unfold lh at p2 ⊢;show(w.aw.push k s).map _=_;have Nx:(w.aw.push k s).map (fun q=>({(w.ay g {x with bJ:=w.av,ae:=12})with aw:=q.1}:Wd))=some {(w.ay g {x with bJ:=w.av,ae:=12})with aw:=q'}:=p2
  exact bb4
 have hpm:lh w k x.bY=some {w with aw:=q'}:=by rw[hm];exact Kw
 unfold rF;simp only[hx,hpm,bW,eN];exact⟨_,ls.set k (l++[s]),rfl,p3,dW hx rfl,rfl,rfl,rfl,rfl,rfl⟩
theorem Pk(h:gU w.au.length x):x.aq.length≤8:=by
 have:=jy 8 (x.aq.map fun z=>(z-1).toNat) ?_ ?_
 ·rw[ko]at this;exact this
 ·refine List.pairwise_map.2 (h.BD.imp_of_mem fun {a b} ha hb G3 e=>?_);have:=(h.lk a ha).1;have:=(h.lk b hb).1;omega
 ·intro y hy;obtain⟨z,hz,rfl⟩:=List.mem_map.1 hy;have:=h.lk z hz;have:=I.c8;omega
theorem tq(rh:gU w.au.length x)(kE:1≤x.k∧x.k≤x.aq.length):∃l,x.aq[(x.k-1).toNat]?=some l∧1≤l∧l≤w.au.length∧Ys w g=some ((free w (l-1) g).ay g {x with k:=x.k-1},decide (x.k-1≤0)):=by
 obtain⟨l,hl⟩:∃l,x.aq[(x.k-1).toNat]?=some l:=⟨_,fv oX⟩;have IF:=rh.lk l (lf hl);have ei:idx x.aq (x.k-1)=some l:=by unfold idx;rw[aF oX];exact hl
 have:=Pk I hx rh;have:=I.c8;have Dn:kJ x.k=true:=bl3
 have okl:kJ l=true:=bl3
 refine⟨l,hl,IF.1,IF.2,?_⟩;unfold Ys;simp only[hx,Dn,ei,okl,bW,eN,aH6,dF]
theorem Du(hs:Na w g)(hk:(aP x).ai=9)(hp:x.ae=30):∃w',iH w g=some w'∧Inv w' ls∧bK w w':=by
 have L:=I.loc g x hx;obtain⟨s1,s2,s3⟩:=L.oW hk oX oX oX oX;have kE:=s2.2.1 oX;obtain⟨l,hl,El,pJ,hu⟩:=tq I hx s1 kE
 have hh:aL x l:=by
  exact ba3
 have rel:∀{y:bI} {c:Int},(aL x c∧x.aq[(x.k-1).toNat]?≠some c)↔(aL x c∧c≠l):=fun {y c}=>bp4
 unfold iH;simp only[hu,bW,eN];by_cases h1:1<x.k
 ·have hf:decide (x.k-1≤0)=false:=by simp;omega
  rw[hf];simp only[dt];obtain⟨m1,m2,m3⟩:=M.an5 L hk hp h1;obtain⟨a,b⟩:=I.rel hx hs m1 ⟨by simp[hp],by simp[hp]⟩ m2 ⟨El,pJ⟩ (fun d=>(m3 d).trans (rel (y:=x))) rfl hh;exact⟨_,rfl,by rw[a];exact b⟩
 ·have jg:x.k=1:=by omega
  have hf:decide (x.k-1≤0)=true:=bi8
  rw[hf];simp only[aH6,dF];have eE:((free w (l-1) g).ay g {x with k:=x.k-1}).gs[g]?=some {x with k:=x.k-1}:=di (x:=x) _ hx;rw[qK eE];rw[cY];have fin:∀(x':bI) (p:Int),(x'={x with k:=x.k-1,ae:=p})→lH x x'→Loc w.au.length x'→(∀c,aL x' c↔aL x c∧x.aq[(x.k-1).toNat]?≠some c)→p≠14→p≠19→Inv ((free w (l-1) g).ay g x') ls∧bK w ((free w (l-1) g).ay g x'):=by intro x' p e m1 m2 m3 Dp h19;subst e;obtain⟨a,b⟩:=I.rel hx hs m1 ⟨fun h=>aX h Dp,h19⟩ m2 ⟨El,pJ⟩ (fun d=>(m3 d).trans (rel (y:=x))) rfl hh;rw[a];exact b
  refine⟨_,rfl,?_⟩;have eA:fG {x with k:=x.k-1}=fG x:=rfl;rw[eA];unfold fG;by_cases hc:x.res.aJ=0
  ·rw[aF hc];obtain⟨m1,m2,m3⟩:=M.an6 L hk hp jg hc;exact fin _ 13 rfl m1 m2 m3 oX oX
  ·rw[aE hc];by_cases ha:x.bA.any (fun s=>s != -1)=true
   ·rw[aF ha];have cM:x.bA≠[]:=(by rintro h;rw[h]at ha;cases ha);obtain⟨m1,m2,m3⟩:=M.an7 L hk hp jg hc cM;exact fin _ 34 rfl m1 m2 m3 oX oX
   ·rw[aE ha]
    have uY:∀s∈x.bA,s= -1:=by
     intro s hs;by_cases h:s= -1
     ·exact h
     ·exact aX (List.any_eq_true.2 ⟨s,hs,bj3⟩) ha
    unfold hJ;by_cases hw:x.wakes=[]
    ·rw[aF hw];obtain⟨m1,m2,m3⟩:=M.ao1 L hk hp jg hc uY hw;exact fin _ 18 rfl m1 m2 m3 oX oX
    ·rw[aE hw];obtain⟨m1,m2,m3⟩:=M.ao0 L hk hp jg hc uY hw;exact fin _ 17 rfl m1 m2 m3 oX oX
theorem Dw(hs:Na w g)(hk:(aP x).ai=9)(hp:x.ae=33):∃w1 fin,Ys w g=some (w1,fin)∧((fin=false∧Inv w1 ls∧bK w w1)∨(fin=true∧∃w',cD w1 g 34=some w'∧Inv w' ls∧bK w w')):=by
 have L:=I.loc g x hx;obtain⟨s1,s2,s3⟩:=L.oW hk oX oX oX oX;have kE:=s2.2.1 oX;obtain⟨l,hl,El,pJ,hu⟩:=tq I hx s1 kE
 have hh:aL x l:=by
  exact ba3
 have rel:∀{c:Int},(aL x c∧x.aq[(x.k-1).toNat]?≠some c)↔(aL x c∧c≠l):=fun {c}=>bp4
 refine⟨_,_,hu,?_⟩;by_cases h1:1<x.k
 ·left;obtain⟨m1,m2,m3⟩:=M.an8 L hk hp h1;obtain⟨a,b⟩:=I.rel hx hs m1 ⟨by simp[hp],by simp[hp]⟩ m2 ⟨El,pJ⟩ (fun d=>(m3 d).trans rel) rfl hh;exact⟨bi8,by rw[a];exact b⟩
 ·right;have eE:((free w (l-1) g).ay g {x with k:=x.k-1}).gs[g]?=some {x with k:=x.k-1}:=di (x:=x) _ hx;obtain⟨m1,m2,m3⟩:=M.an9 L hk hp oX;obtain⟨a,b⟩:=I.rel hx hs m1 ⟨sX,sX⟩ m2 ⟨El,pJ⟩ (fun d=>(m3 d).trans rel) rfl hh;refine⟨bi8,_,wa eE 34,?_⟩;rw[cY,a];exact b
theorem oq(s1:gU w.au.length x)(kE:0≤x.k∧x.k<x.aH.length):∃(i:Nat) (c:Case),dU x=some (i:Int)∧x.aH[x.k.toNat]?=some (i:Int)∧iF (aP x) i=some c∧(aP x).cases[i]?=some c∧1≤c.ch∧c.ch≤w.au.length∧c.ch∈x.aq∧kJ x.k=true:=by
 obtain⟨v,hv⟩:∃v,x.aH[x.k.toNat]?=some v:=⟨_,fv oX⟩;obtain⟨h0,c,hc,h1,h2,h3⟩:=s1.ord v (lf hv);obtain⟨i,hi⟩:=pz h0;subst hi;have Ek:(aP x).cases[i]?=some c:=by simpa using hc
 have:=I.c8;refine⟨i,c,?_,hv,?_,Ek,h1,h2,h3,?_⟩
 ·unfold dU idx;rw[aF kE.1];exact hv
 ·unfold iF idx;rw[aF oX,oU,Ek];simp only[bW,eN];rw[aF bl3]
 ·have:=s1.len;unfold kJ;simp;omega
end
theorem KA(hk:(aP x).ai=9)(hp:25≤x.ae∧x.ae≤29∨x.ae=32){c:Int}(h:c∈x.aq):aL x c:=by
 unfold aL;rw[aF hk];have e:bC x=x.aq.length:=by unfold bC;rw[aE oX,aF hp]
 rw[e,List.take_length];exact h
section
variable(I:Inv w ls)(hx:w.gs[g]?=some x)(hs:Na w g)(hk:(aP x).ai=9)
include I hx hs hk
theorem PE(hp:x.ae=32):∃w' fM,uG w g=some w'∧Inv w' fM∧bK w w':=by
 have L:=I.loc g x hx;obtain⟨s1,s2,s3⟩:=L.oW hk oX oX oX oX;have kE:=s2.2.2 oX;obtain⟨i,c,h1,h2,h3,h4,h5,h6,h7,Dn⟩:=oq I hx s1 kE;have oO:¬aW x:=uy oX;obtain⟨v,hv,Rv⟩:=s3.all oX i (lf h2);obtain⟨s,PF⟩:=pz Rv;subst PF;rw[oU]at hv;obtain⟨sd,a1,a2,a3,a4,a5⟩:=I.bA g x i s hx hv
 have bO:sd.ch=c.ch:=by
  rcases a5 with⟨h,_⟩|⟨_,_,_,c',e1,e2,_⟩
  ·exact aX hk h
  ·rw[a4,oU,h4]at e1;cases e1;exact e2
 have mj:s<w.ah.length:=cA a1;obtain⟨q',d1,d2,d3⟩:=I.B8 mj (wm I hx (fun h=>bj9) a1 (by rw[bO];exact KA hk oX h7) (by rw[bO];exact⟨h5,h6⟩));have ei:idx x.bA i=some (s:Int):=bv7
 unfold uG;simp only[hx,h1,ei,d1,Dn,bW,eN,aH6,dF]
 have fin:∀x':bI,x'.ops=x.ops→x'.at_=x.at_→x'.bY=x.bY→x'.bA=x.bA→x'.wakes=x.wakes→x'.aN=x.aN→Loc w.au.length x'→(∀c,aL x' c↔aL x c)→(x'.ae=32∨x'.ae=33)→
   (∀sd',(∃j:Nat,x.k<j∧x.aH[j]?=some sd'.case)→eV x' sd')→Inv (({w with aw:=q'}:Wd).ay g x') (iA ls s)∧bK w (({w with aw:=q'}:Wd).ay g x'):=by
  intro x' e0 e1 e2 e3 e4 e5 hL hh kM hq;have eE:({w with aw:=q'}:Wd).gs[g]?=some x:=hx;have K:=d2.iQ (x':=x') eE (oM e0 e1) e2 e3;have W:=d2.jU (x':=x') eE br6;refine⟨d2.mn eE hL (fun k l u sd' hl hm hu EU ho SS=>⟨(K.2.2 _ _).2 ho,hq sd' ?_⟩) K.1 K.2.1 (fun j u s sd _ _ _ _ _ _ a b _ _ _=>aX b oO) (fun h=>bk2) (fun h=>bj9) (d2.qB eE K.2.2 e5 (fun h=>aX h oO)) W.1 W.2 rfl rfl rfl d2.au rfl rfl (d2.lock.same eE hh) rfl rfl rfl (d2.st.same eE hs (fun h=>aX h oO) e5 (fun h=>oX) oX) (d2.jn.same eE (fun h=>aX h oO) e5 e4 (fun h=>oX)),dW hx e0,rfl,rfl,rfl,rfl,rfl⟩;rcases SS with⟨h,_⟩|⟨_,h⟩
  ·exact aX hk h
  ·have hj:∃j:Nat,x.k≤j∧x.aH[j]?=some sd'.case:=by
    rcases h with⟨h,_⟩|⟨h,_⟩|h|h|⟨h,_⟩|⟨_,h⟩<;>first|omega|exact h
   obtain⟨j,Ni,EL⟩:=hj;refine⟨j,?_,EL⟩;by_cases hjk:(j:Int)=x.k
   ·exfalso;have ejk:j=x.k.toNat:=oX;rw[ejk,h2]at EL;rcases ho with⟨h,_⟩|⟨_,_,UE,_⟩
    ·exact aX hk h
    ·have e6:sd'.case.toNat=i:=(by have:=mx EL;omega);rw[e6,hv]at UE;have e7:u=s:=(by have:=mx UE;omega);subst e7;exact d3 k l hl hm
   ·omega
 by_cases j7:(x.aH.length:Int)≤x.k+1
 ·rw[aF j7];obtain⟨m2,m3⟩:=M.aq3 L hk hp;have F:=fin {x with k:=x.aq.length,ae:=33} rfl rfl rfl rfl rfl rfl m2 m3 (.inr rfl) (fun sd' ⟨j,Ni,EL⟩=>by have:=cA EL;omega);exact⟨_,_,rfl,F⟩
 ·rw[aE j7];obtain⟨m2,m3⟩:=M.aq2 L hk hp oX;have F:=fin {x with k:=x.k+1} rfl rfl rfl rfl rfl rfl m2 m3 (.inl hp) (fun sd' ⟨j,Ni,EL⟩=> .inr ⟨hk,.inr (.inr (.inr (.inr (.inr ⟨hp,j,bj2,EL⟩))))⟩);exact⟨_,_,rfl,F⟩
theorem zp(hp:x.ae=29):∃w' fM,gK w g (aP x)=some w'∧Inv w' fM∧bK w w':=by
 have L:=I.loc g x hx;obtain⟨s1,s2,s3⟩:=L.oW hk oX oX oX oX;have kE:=s2.2.2 oX;obtain⟨i,c,h1,h2,h3,h4,h5,h6,h7,Dn⟩:=oq I hx s1 kE;have hc8:=I.c8;obtain⟨v,hv,Rv⟩:=s3.all oX i (lf h2);obtain⟨s,PF⟩:=pz Rv;subst PF;rw[oU]at hv;obtain⟨sd,a1,a2,a3,a4,a5⟩:=I.bA g x i s hx hv
 have fa:sd.ch=c.ch∧sd.cF=c.cF:=by
  rcases a5 with⟨h,_⟩|⟨_,_,_,c',e1,e2,e3⟩
  ·exact aX hk h
  ·rw[a4,oU,h4]at e1;cases e1;exact⟨e2,e3⟩
 have ei:idx x.bA i=some (s:Int):=bv7
 have hq:(if c.cF then 2*c.ch-1 else 2*c.ch-2)=Lh sd:=by unfold Lh;rw[fa.1,fa.2]
 obtain⟨k,jA⟩:=pz (show 0≤Lh sd by rw[←hq];split<;>omega)
 have ZH:k<16:=by
              have:Lh sd<16:=by rw[←hq];split<;>omega
              omega
 have ar6:∀(k':Nat) l',ls[k']?=some l'→s ∉ l':=by
  intro k' l' hl' Ht;obtain⟨AU,g2,x2,b1,b2,b3,b4,b5,b6,_⟩:=I.EJ k' l' s hl' Ht;rw[a1]at b1;cases b1;obtain rfl:g2=g:=oX
  rw[hx]at b4;cases b4;rcases b6 with⟨h,_⟩|⟨_,h⟩
  ·exact h hk
  ·have hj:∃j:Nat,(j:Int)<x.k∧x.aH[j]?=some sd.case:=by
    rcases h with⟨_,h⟩|⟨h,_⟩|h|h|⟨h,_⟩|⟨h,_⟩<;>first|omega|exact h
   obtain⟨j,Ni,EL⟩:=hj;rw[a4]at EL;have:=(List.getElem?_inj (cA EL) s1.nd).1 (EL.trans h2.symm);omega
 have fin:∀x':bI,lH x x'→x'.ops=x.ops→Loc w.au.length x'→(∀c,aL x' c↔aL x c)→x'.ae≠14→x'.ae≠19→eV x' sd→
   ∃q' fM,lh w (Lh sd) s=some {w with aw:=q'}∧Inv (({w with aw:=q'}:Wd).ay g x') fM∧bK w (({w with aw:=q'}:Wd).ay g x'):=by
  intro x' M e0 hL hh Dp h19 SS;obtain⟨I1,K1⟩:=I.ku hx hs M ⟨fun h=>aX h Dp,h19⟩ hL hh e0;have eE:(w.ay g x').gs[g]?=some x':=di _ hx;obtain⟨q',l,p1,p2,p3⟩:=I1.UX (s:=s) (k:=k) (g:=g) (sd:=sd) a1 a2 a3 eE (M.owns.2 a5) SS jA.symm ZH ar6 (fun h=>aX (by rw[M.aP];exact hk) h);refine⟨q',_,?_,p3,dW hx e0,rfl,rfl,rfl,rfl,rfl⟩;rw[jA];unfold lh at p2 ⊢;have Nx:(w.aw.push k s).map (fun q=>({(w.ay g x')with aw:=q.1}:Wd))=some {(w.ay g x')with aw:=q'}:=p2
  exact bb4
 unfold gK;simp only[hx,h1,h3,ei,hq,bW,eN];by_cases j7:(x.aH.length:Int)≤x.k+1
 ·obtain⟨m1,m2,m3⟩:=M.aq1 L hk hp w.av;obtain⟨q',fM,F1,F2⟩:=fin {x with bJ:=w.av,k:=x.aq.length,ae:=30} m1 rfl m2 m3 sX sX (.inr ⟨hk,.inr (.inl ⟨rfl,L.BE hk oX⟩)⟩);simp only[F1,Dn,eN,aH6,dF];rw[aF j7];exact⟨_,_,rfl,F2⟩
 ·obtain⟨m1,m2,m3⟩:=M.aq0 L hk hp oX;obtain⟨q',fM,F1,F2⟩:=fin {x with k:=x.k+1} m1 rfl m2 m3 bj2 bj2 (.inr ⟨hk,.inl ⟨hp,x.k.toNat,bj2,by rw[a4];exact h2⟩⟩);simp only[F1,Dn,eN,aH6,dF];rw[aE j7];exact⟨_,_,rfl,F2⟩
end
end
end V
open Go.RowKit Go.Proofs.Tryz
section
variable{af:Nat}{F:Fx}{w w0 w':World}{m m0 m':Mem}{S S':Wd}{L:List (Nat×Obj)}
def iu(S:Wd)(n q:Nat):Wd:={S with au:=S.au++[{places:=List.replicate n 0}],aO:=S.aO++[false],aq:=S.aq++List.replicate q (-1)}
theorem AB.WU{S':Wd}(X:AB af F m0 w0 m w S L)(h:S=S'):AB af F m0 w0 m w S' L:=h▸X
theorem zE(A:At af F m0 w0 m w S)(n:Nat):Calls prog 201 #[.pointer (some ⟨F.dY,0,none⟩)] (w.drewN n) fun e w'=>e=.returned (I S.aq.length)∧w'=w.drewN n:=
 (AI (A.drewN n).bj).mono fun e w' h=>⟨h.1,h.2.symm⟩
theorem F8(X:AB af F m0 w0 m w S L)(hl:S.aq.length≤4000):Calls prog 202 #[.pointer (some ⟨F.dY,0,none⟩)] w (eL (I S.aq.length) fun w'=>∃m',AB af F m0 w0 m' w' {S with aq:=S.aq++[-1]} L):=
 (AM X.bj hl).mono fun e w' ⟨h1,m',h2⟩=>⟨h1,m',X.av h2⟩
theorem DR(R:bz af F w m S)(n:Nat)(Zj:n≤64)(h8:¬8≤S.au.length)(Aq:S.aq.length=S.au.length)(gm:S.aO.length=S.au.length):Calls prog 142 #[bR F,I n] w (eL (.agg #[I 1,I (-1),I 0,B true,I (S.au.length+1)]) (To af F m w (iu S n 1))):=by
 obtain⟨i1,hi1,gF,rh,gq⟩:=info_parts KF;obtain⟨i2,hi2,gG,vz,mz⟩:=info_parts P7;have c5:=R.qx;obtain⟨k,hk⟩:=dC (S.au.length);obtain⟨va,vc,hh⟩:=R.shape (r:=.au) (n:=S.au.length) bn5;rw[hh]at c5;rw[←hk]at c5 h8;have WV:Hid (m.cU .au k=.slice va k vc):=by rw[hk];exact hh
 have hb:decide ((8:Int)≤(k:Int))=false:=bi8
 have WM:=R.lt R.aB.al;have HX:=ag ((AB.iU R).alloc (.cells #[I 0,I 0,I 0,B false,I 0] 44));have HN:=ag (fun w=>CW n Zj w);have HK:=ag hk;have vD:=ag R.eS;have TD:Hid (F.al<w.heap.size):=WM;obtain⟨tP,HLK⟩:=dA gm Aq;clear R hh hk gm Aq;unfold bR;go_enter func142,ntmps142;go_wp2_with (first|(go_at_call 200;refine(HN _).mono ?_;rintro e wA ⟨rb,pb,rfl,NY⟩;have P8:=ag NY;have XA:=HX.out.av ((At.refl HX.out.bj).heap NY.below);have RA:=XA.bj;have d5:=RA.qx;rw[←HK.out,WV.out]at d5;have fd5:=RA.frozen RA.aB.al 5;have l1:=RA.lt RA.aB.al;have hown:=RA.owns (r:=.au) (p:=(118,1)) rfl dX (n:=k) (by rw[HK.out];simp[aj]);rw[WV.out]at hown;have HO:=ag hown;have qq:=RA.eS;have iv:=ag XA;clear XA RA NY hown)|(at_builtin;go_loud (refine jw (us:=#[.pointer (some ⟨rb,0,none⟩)]) (w2:=wA) rfl (.tmp 23) (.tmp 25) 87 rfl underlying87 hi1 gF rh gq rfl dX dX rfl rfl bi9 (.slice va k vc) k _ rfl HO rfl oX qq ?_)));intro gg cap w3 ah8 bX bE;have jz:(Value.slice va k vc).ownBlock=m.aV .au:=by rw[←WV.out,Mem.mM]
 rw[jz]at bX bE;have FI:(w.alloc (.cells #[I 0,I 0,I 0,B false,I 0] 44)).heap.size=w.heap.size+1:=sX
 have P9:=P8.out.rb0;have Qa:=P8.out.pb0;have au1:w.heap.size+1≤rb:=by rw[←FI];exact P9
 have Pj:w.heap.size+1≤pb:=by rw[←FI];exact Qa
 have XB:=iv.out.yc (buf:=.cells #[.pointer (some ⟨rb,0,none⟩)] 118) P8.out.eU P8.out.places P8.out.ne bs5 bs5 (HX.out.bj.iT P9) (HX.out.bj.iT Qa) oX oX oX oX bX (by rw[←HK.out];exact ah8) (by simpa using bE);rw[←HK.out]at XB;obtain⟨wB,hwB,XB⟩:∃wB,wB=_∧AB af F m w ((m.fR k rb pb n).eG .au (some gg) cap) wB _ _:=⟨_,rfl,XB⟩;have d5b:=fW (o:=.cells #[.pointer (some ⟨rb,0,none⟩)] 118) bX d5 rfl (iv.out.bj.jv iv.out.bj.aB.al sX);have WW:=fN (o:=.cells #[.pointer (some ⟨rb,0,none⟩)] 118) bX fd5 l1 rfl (iv.out.bj.jv iv.out.bj.aB.al sX);have wG:=ag XB;have UT:=ag hwB;clear ah8 bX bE XB hwB;go_upto_region 5 with fail
 rw[←UT.out];clear d5 fd5 d5b WW c5 UT HO qq l1;have RB:=wG.out.bj;have fe6:=RB.frozen RB.aB.al 6;have l1:=RB.lt RB.aB.al;obtain⟨vb,vd,TE⟩:=RB.shape (r:=.aO) (n:=S.aO.length) bn5;have e6:wB.cell? ⟨F.al,6,none⟩=some (.slice vb k vd):=by rw[HK.out,←tP.out,←TE];exact RB.Cv
 have zF:=RB.owns (r:=.aO) (p:=(4,1)) rfl dX (n:=S.aO.length) bn5;rw[TE]at zF;have fu:wB.ownsRow af 4 1 (.slice vb k vd) k (S.aO.map B):=by rw[HK.out,←tP.out];exact zF
 have Jg:Hid ((Value.slice vb k vd).ownBlock=((m.fR k rb pb n).eG .au (some gg) cap).aV .aO):=by rw[HK.out,←tP.out,←TE,Mem.mM];rw[HK.out];exact ag rfl
 have Jh:Hid ((Value.slice vb k vd).ownBlock≠some F.al):=by rw[Jg.out];exact RB.jv RB.aB.al sX
 have OJ:=ag fu;have Ga:=RB.eS;clear RB TE fu zF;go_wp2_with (at_builtin;go_loud (refine jw (us:=#[B false]) (w2:=wB) rfl (.tmp 33) (.tmp 34) 88 rfl underlying88 hi2 gG vz mz rfl dX dX rfl rfl bi9 (.slice vb k vd) k _ rfl OJ rfl oX Ga ?_));intro g2 hU w4 Gb oQ qU;have d6:=fW (o:=.cells #[B false] 4) oQ e6 rfl Jh;have fd6:=fN (o:=.cells #[B false] 4) oQ fe6 l1 rfl Jh;rw[Jg.out]at oQ qU;have hlc:(S.aO++[false]).length=k+1:=by simp[tP.out,HK.out]
 have XC:=wG.out.av (((At.refl wG.out.bj).alloc (.cells #[B false] 4)).BP (l:=S.aO++[false]) oQ (by rw[hlc,List.map_append];exact Gb) (by simpa using qU));rw[hlc]at XC;obtain⟨wC,hwC,XC⟩:∃wC,wC=_∧AB af F m w (((m.fR k rb pb n).eG .au (some gg) cap).eG .aO (some g2) hU) wC (iu S n 0) _:=⟨_,rfl,XC.WU (by simp[iu])⟩;have My:=ag XC;have HWC:=ag hwC;clear Gb oQ qU XC hwC;go_upto_block 6 with fail
 rw[←HWC.out];clear HWC d6 fd6 e6 fe6 OJ Ga Jg Jh l1 wG;have R1:=My.out.bj;have c7:=R1.pC;have d5:=R1.qx;obtain⟨ve,vf,hh3⟩:=R1.shape (r:=.au) (n:=(iu S n 0).au.length) bn5;have El:(iu S n 0).au.length=k+1:=by simp[iu,HK.out]
 rw[hh3,El]at d5;have l1:=R1.lt R1.aB.al;have pJ:(iu S n 0).aq.length=k:=by simp[iu,HLK.out,HK.out]
 have XT:=ag (fun q=>zE My.out.at_ q);rw[pJ]at XT;have dD:decide ((k:Int)<(k:Int)+1)=true:=decide_eq_true oX;clear R1 hh3;refine wp_loop_rounds 2 ?_;rw[rounds_succ];go_wp2_with fail
 go_quiet ((go_at_call 201;exact Calls.quiet_of_same (XT _)));go_wp2_with (go_at_call 202;refine(F8 (S:=iu S n 0) My.out.aI (by rw[pJ];omega)).mono ?_;rintro e wD ⟨rfl,mD,XD⟩;have TF:=ag (XD.WU (S':=iu S n 1) (by simp[iu,List.replicate]));clear XD);clear c7 d5 XT dD;have R1:=TF.out.bj;have c7:=R1.pC;have d5:=R1.qx;obtain⟨vg,vh,Nz⟩:=R1.shape (r:=.au) (n:=(iu S n 1).au.length) bn5;have XG:(iu S n 1).au.length=k+1:=by simp[iu,HK.out]
 rw[Nz,XG]at d5;have l2:=R1.lt R1.aB.al;have hl4:(iu S n 1).aq.length=k+1:=by simp[iu,HLK.out,HK.out]
 have XT:=ag (fun q=>zE TF.out.at_ q);rw[hl4]at XT;have rT:decide ((((k+1:Nat):Int))<(k:Int)+1)=false:=decide_eq_false oX;obtain⟨r0,r1,r2,r3,r4⟩:=qT TF.out.head;have Hc:=aM TF.out.head 0;have Hd:=aM TF.out.head 1;have Au:=aM TF.out.head 2;have He:=aM TF.out.head 3;have Hf:=aM TF.out.head 4;have HKI:Hid ((S.au.length:Int)=k):=by rw[HK.out];exact ag rfl
 clear R1 Nz;rw[rounds_succ];go_wp2_with fail
 go_quiet ((go_at_call 201;exact Calls.quiet_of_same (XT _)));go_wp2;rw[HKI.out];have Y:=TF.out;refine bodyPost_ret (xi rfl _ _ w.heap.size _ _ _ _ _ (0,0) rfl (kF Y.head _ _ _ _ _)) rfl ?_;refine⟨?_,_,At.xF ?_ (Y.loc _ (rn ..)).2 cG _ _ _ _ _⟩
 ·trace_state;simp
 ·exact Y.at_.aI
theorem Bi(R:bz af F w m S)(g:Nat)(o:cu)(dj:o.cases.length≤1000)(Jl:1≤o.cases.length)(ca:Option Addr)(cc:Nat)(S':Wd)(hm:j3 S g o=some S'):Calls prog 174 #[.pointer (some ⟨F.al,0,none⟩),I g,.agg #[I o.ai,I o.ch,I o.n,I o.v,.slice ca o.cases.length cc,B o.dG]] w (ee (To af F m w S')):=by
 unfold j3 at hm;simp only[bW,cI]at hm;obtain⟨x,hx,hm⟩:=hm;by_cases h1:kJ x.k=false
 ·rw[aF h1]at hm;cases hm
 rw[aE h1]at hm;have hk:=lM h1;by_cases dD:x.k+1<x.aH.length
 ·rw[aF dD]at hm
  cases hm;exact(AX R g x hx x.k rfl hk o ca _ cc dD).mono fun e w' ⟨h1,h2⟩=>⟨h1,m,h2⟩
 rw[aE dD]at hm
 cases he:o.dG with
 |true=>
  rw[he,aF rfl]at hm;unfold te fL at hm;rw[az hx]at hm
  cases hm;have h:=AY R g x hx x.k rfl hk o ca o.cases.length cc dD he;rw[he]at h;exact h.mono fun e w' ⟨h1,h2⟩=>⟨h1,m,h2⟩
 |false=>
  rw[he,aE sX]at hm
  cases hm;have h:=AZ R g x hx x.k rfl hk o ca o.cases.length cc dD he Jl dj;rw[he]at h;exact h
theorem Qk{S:Wd}{j:Int}{b:Bool}(h:idx S.aO j=some b):∃n:Nat,j=n∧S.aO[n]?=some b:=by
 obtain⟨n,h1,_,h2⟩:=mO h;exact⟨n,h1,h2⟩
theorem Gh{ch v:Int}{S1:Wd}{b:Bool}(h:aH8 S ch v=some (S1,b)):∃(j:Nat) (r:Ring),ch-1=j∧S.au[j]?=some r∧S1=S.dZ j (r.put v).1∧b=(r.put v).2:=by
 unfold aH8 kq at h;simp only[bW,cI]at h;obtain⟨⟨j,r⟩,⟨c,hc,r',hr,h2⟩,h3⟩:=h
 cases h2
 cases h3;exact⟨_,_,du hc,hr,rfl,rfl⟩
theorem Gi{ch v:Int}{S1:Wd}{b:Bool}(h:getRing S ch=some (S1,v,b)):∃(j:Nat) (r:Ring),ch-1=j∧S.au[j]?=some r∧S1=S.dZ j r.get.1∧v=r.get.2.1∧b=r.get.2.2:=by
 unfold getRing kq at h;simp only[bW,cI]at h;obtain⟨⟨j,r⟩,⟨c,hc,r',hr,h2⟩,h3⟩:=h
 cases h2
 cases h3;exact⟨_,_,du hc,hr,rfl,rfl,rfl⟩
section
variable(R:bz af F w m S)(aG:Good S)(g:Nat)(c:Case)(bO:eX c.ch)(S1:Wd)(r:nP)(dn tk:Bool)
include R aG g c bO S1 r dn tk
theorem Bj(hm:j4 S g c=some (S1,r,dn,tk)):Calls prog 171 #[.pointer (some ⟨F.al,0,none⟩),I g,.agg #[B c.cF,I c.ch,I c.v]] w (eL (.tuple #[.agg #[I r.aJ,I r.case,I r.v,B r.ok,I r.n],.bool dn,.bool tk]) fun w'=>At af F m w m w' S1):=by
 unfold j4 at hm;simp only[bW,cI]at hm;obtain⟨cl,gm,hm⟩:=hm;obtain⟨j,hj,gm⟩:=Qk gm
 cases cl with
 |true=>
  simp only[dt,oZ]at hm
  cases hm;have h:=xG R g c j oX oX gm;exact h
 |false=>
  simp only[nW,dF,cI]at hm;obtain⟨⟨S2,ok⟩,h2,hm⟩:=hm
  cases ok with
  |true=>
   simp only[dt,oZ]at hm
   cases hm;exact zL R aG g c bO j hj gm S1 h2
  |false=>
   have e:=KH h2;subst e;simp only[nW,dF,cI]at hm;obtain⟨⟨S3,ok3⟩,h3,hm⟩:=hm;obtain⟨j',rg,Vr,hr,rfl,rfl⟩:=Gh h3;obtain rfl:j'=j:=oX
   cases hp:(rg.put c.v).2 with
   |true=>
    simp only[hp,dt,oZ]at hm
    cases hm;exact tw R aG _ g c bO j' hj gm h2 rg hr hp _ (.inl ⟨rfl,rfl⟩)
   |false=>
    simp only[hp,nW,dF,oZ]at hm
    cases hm;exact tw R aG _ g c bO j' hj gm h2 rg hr hp _ (.inr ⟨rfl,rfl⟩)
theorem Bk(hm:j5 S g c=some (S1,r,dn,tk)):Calls prog 172 #[.pointer (some ⟨F.al,0,none⟩),I g,.agg #[B c.cF,I c.ch,I c.v]] w (eL (.tuple #[.agg #[I r.aJ,I r.case,I r.v,B r.ok,I r.n],.bool dn,.bool tk]) fun w'=>At af F m w m w' S1):=by
 unfold j5 at hm;simp only[bW,cI]at hm;obtain⟨⟨S2,ok⟩,h2,hm⟩:=hm
 cases ok with
 |true=>
  simp only[dt,oZ]at hm
  cases hm
  obtain⟨j,hj⟩:∃j:Nat,c.ch-1=j∨c.ch-1<0:=by
   rcases Int.lt_or_le (c.ch-1) 0 with h|h
   ·exact⟨0,.inr h⟩
   ·obtain⟨n,hn⟩:=pz h;exact⟨n,.inl hn⟩
  exact zM R aG g c bO S1 h2
 |false=>
  have e:=KH h2;subst e;simp only[nW,dF,cI]at hm;obtain⟨⟨S3,v,ok3⟩,h3,hm⟩:=hm;obtain⟨j,rg,hj,hr,rfl,rfl,rfl⟩:=Gi h3
  cases hp:rg.get.2.2 with
  |true=>
   simp only[hp,dt,oZ]at hm
   cases hm;exact Bh R aG g c bO j hj h2 rg hr hp
  |false=>
   simp only[hp,nW,dF,cI]at hm;obtain⟨cl,gm,hm⟩:=hm;obtain⟨j',Vr,gm⟩:=Qk gm;obtain rfl:j'=j:=oX
   cases cl with
   |true=>
    simp only[dt,oZ]at hm
    cases hm;exact xj R aG _ g c bO j' hj gm _ (.inl ⟨rfl,rfl⟩) h2 rg hr hp
   |false=>
    simp only[nW,dF,oZ]at hm
    cases hm;exact xj R aG _ g c bO j' hj gm _ (.inr ⟨rfl,rfl⟩) h2 rg hr hp
end
section
variable(X:AB af F m0 w0 m w S L)
include X
theorem sx(aG:Good S)(g:Nat){c:Case}(bO:eX c.ch){S1:Wd}{r:nP}{dn tk:Bool}(hm:j4 S g c=some (S1,r,dn,tk)):Calls prog 171 #[bR F,I g,.agg #[B c.cF,I c.ch,I c.v]] w (eL (.tuple #[.agg #[I r.aJ,I r.case,I r.v,B r.ok,I r.n],.bool dn,.bool tk]) fun w'=>AB af F m0 w0 m w' S1 L):=
 (Bj X.bj aG g c bO S1 r dn tk hm).mono fun e w' ⟨h1,h2⟩=>⟨h1,X.av h2⟩
theorem sy(aG:Good S)(g:Nat){c:Case}(bO:eX c.ch){S1:Wd}{r:nP}{dn tk:Bool}(hm:j5 S g c=some (S1,r,dn,tk)):Calls prog 172 #[bR F,I g,.agg #[B c.cF,I c.ch,I c.v]] w (eL (.tuple #[.agg #[I r.aJ,I r.case,I r.v,B r.ok,I r.n],.bool dn,.bool tk]) fun w'=>AB af F m0 w0 m w' S1 L):=
 (Bk X.bj aG g c bO S1 r dn tk hm).mono fun e w' ⟨h1,h2⟩=>⟨h1,X.av h2⟩
theorem Gj(g:Nat){o:cu}(dj:o.cases.length≤1000)(Jl:1≤o.cases.length)(ca:Option Addr)(cc:Nat){S':Wd}(hm:j3 S g o=some S'):Calls prog 174 #[bR F,I g,.agg #[I o.ai,I o.ch,I o.n,I o.v,.slice ca o.cases.length cc,B o.dG]] w (ee fun w'=>∃m',AB af F m0 w0 m' w' S' L):=
 (Bi X.bj g o dj Jl ca cc S' hm).mono fun e w' ⟨h1,m',h2⟩=>⟨h1,m',X.av h2⟩
theorem Bl{g:Nat}{S':Wd}(hm:eH S g=some S'):Calls prog 114 #[bR F,I g] w (ee fun w'=>AB af F m0 w0 m w' S' L):=
 (rm X.bj g S' hm).mono fun e w' ⟨h1,h2⟩=>⟨h1,X.av h2⟩
theorem TL{g:Nat}{x:bI}(hx:S.gs[g]?=some x)(r:nP):Calls prog 173 #[bR F,I g,.agg #[I r.aJ,I r.case,I r.v,B r.ok,I r.n]] w (ee fun w'=>AB af F m0 w0 m w' (S.ay g (eZ {x with res:=r,point:=S.av,fire:=r.case} 30)) L):=
 (Ce X.bj g x hx r).mono fun e w' ⟨h1,h2⟩=>⟨h1,X.av h2⟩
theorem yd{g:Nat}{x:bI}(hx:S.gs[g]?=some x){h:Int}(hh:dU x=some h):Calls prog 170 #[.pointer (some ⟨F.al,0,none⟩),I g] w fun e w'=>e=.returned (I h)∧∃n,w'=w.drewN n:=vX X.bj g x hx h hh
end
def CB(b:Nat)(ob:Obj)(cs:List Case):Prop:=∀(W:World),W.heap[b]?=some ob→∀j c,cs[j]?=some c→W.cell? ⟨b,j*3,none⟩=some (B c.cF)∧W.cell? ⟨b,j*3+1,none⟩=some (I c.ch)∧W.cell? ⟨b,j*3+2,none⟩=some (I c.v)
theorem dm.block{H:Nat}{v:Value}{cs:List Case}(h:dm H w' v cs)(A:At af F m w m w' S)(R:bz af F w m S)(hH:w.heap.size≤H)(cM:cs≠[]):∃nb cap ob,v=.slice (some ⟨nb,0,none⟩) cs.length cap∧CB nb ob cs∧AB af F m w m w' S [(nb,ob)]:=by
 rcases h with h|⟨nb,cap,h1,h2,h3,h4,h5⟩
 ·exact aX h.1 cM
 ·obtain⟨ob,jz⟩:∃ob,w'.heap[nb]?=some ob:=⟨_,xL h4⟩;refine⟨nb,cap,ob,h2,fun W hW j c hj=>?_,A,fun p hp=>?_⟩
  ·have hb:W.heap[nb]?=w'.heap[nb]?:=hW.trans jz.symm;have e:∀j,W.cell? ⟨nb,j,none⟩=w'.cell? ⟨nb,j,none⟩:=fun j=>kZ (w:=w') (w':=W) (a:=⟨nb,j,none⟩) hb
   rw[e,e,e];exact h5 j c hj
  ·simp at hp;subst hp;exact⟨jz,R.iT (by show w.heap.size≤nb;omega)⟩
theorem AB.xF{b:Nat}{a0 a1 a2 a3 a4:Value}(X:AB af F m0 w0 m w S ((b,.cells #[a0,a1,a2,a3,a4] 44)::L))(hb:w0.heap.size≤b)(hL:∀p∈L,p.1≠b)(v0 v1 v2 v3 v4:Value):AB af F m0 w0 m (((((w.setCell ⟨b,0,none⟩ v0).setCell ⟨b,1,none⟩ v1).setCell ⟨b,2,none⟩ v2).setCell ⟨b,3,none⟩ v3).setCell ⟨b,4,none⟩ v4) S ((b,.cells #[v0,v1,v2,v3,v4] 44)::L):=by
 refine⟨X.at_.xF (X.loc _ (rn ..)).2 hb _ _ _ _ _,fun p hp=>?_⟩;rcases iL.1 hp with h|h
 ·subst h;exact⟨kF X.head _ _ _ _ _,(X.loc (b,.cells #[a0,a1,a2,a3,a4] 44) (rn ..)).2⟩
 ·refine⟨?_,(X.loc p (nO _ h)).2⟩;have XR:=(X.loc p (nO _ h)).1;have cM:=hL p h;rw[fQ _ _ _ _ cM,fQ _ _ _ _ cM,fQ _ _ _ _ cM,fQ _ _ _ _ cM,fQ _ _ _ _ cM];exact XR
section
variable(X:AB af F m0 w0 m w S L)
include X
theorem AB.vn(o1 o2:Obj):AB af F m0 w0 m ((w.alloc o1).alloc o2) S ((w.heap.size+1,o2)::(w.heap.size,o1)::L):=by
 exact be4
theorem AB.Ql(o1:Obj):∀p∈(w.heap.size,o1)::L,p.1≠w.heap.size+1:=by
 intro p hp;rcases iL.1 hp with h|h
 ·subst h;show w.heap.size≠_;omega
 ·have:=(dh (X.loc p h).1).1;omega
theorem AB.sizeLe:w0.heap.size≤w.heap.size:=X.at_.mv.size
end
theorem AB.case{b:Nat}{a0 a1 a2 a3 a4:Value}(X:AB af F m0 w0 m w S ((b,.cells #[a0,a1,a2,a3,a4] 44)::L))(hb:w0.heap.size≤b)(hL:∀p∈L,p.1≠b)(v:Value):AB af F m0 w0 m (w.setCell ⟨b,1,none⟩ v) S ((b,.cells #[a0,v,a2,a3,a4] 44)::L):=by
 refine⟨X.at_.other (X.loc _ (rn ..)).2 hb _,fun p hp=>?_⟩;rcases iL.1 hp with h|h
 ·subst h;exact⟨heap_setCell_same _ b 1 _ _ v X.head,(X.loc (b,.cells #[a0,a1,a2,a3,a4] 44) (rn ..)).2⟩
 ·exact bf3
section
variable(X0:AB af F m0 w0 m w S L)(aG:Good S)(g:Nat)(x:bI)(hx:S.gs[g]?=some x)(i:Int)(hi:dU x=some i)(o:cu)(dj:o.cases.length≤1000)(nb:Nat)(ob:Obj)(fD:(nb,ob)∈L)(fP:CB nb ob o.cases)(cc:Nat)(k:Nat)(hk:i=k)(c:Case)(hc:o.cases[k]?=some c)(bO:eX c.ch)(S1:Wd)(r:nP)
include X0 aG g x hx i hi o dj nb ob fD fP cc k hk c hc bO S1 r
theorem zN(dn:Bool)(h1:(c.cF=true∧j4 S g c=some (S1,r,dn,true))∨(c.cF=false∧j5 S g c=some (S1,r,dn,true)))(S':Wd)(h2:eH S1 g=some S'):Calls prog 113 #[bR F,I g,.agg #[I o.ai,I o.ch,I o.n,I o.v,.slice (some ⟨nb,0,none⟩) o.cases.length cc,B o.dG]] w (ee fun w'=>∃m',AB af F m0 w0 m' w' S' L):=by
 rcases h1 with⟨hs,h1⟩|⟨hs,h1⟩
 all_goals
  have vA:k<o.cases.length:=cA hc;have Jl:1≤o.cases.length:=oX
  obtain⟨n0,n1,n2⟩:=fP w (X0.loc _ fD).1 k c hc;have Vb:nb<w.heap.size:=(dh (X0.loc _ fD).1).1;have jc:=ag (X0.alloc (eD o (some ⟨nb,0,none⟩) cc));have HX:=ag (X0.vn (eD o (some ⟨nb,0,none⟩) cc) (.cells #[I 0,I 0,I 0,B false,I 0] 44));have E8:=ag (X0.Ql (eD o (some ⟨nb,0,none⟩) cc));have xW:=ag X0.sizeLe;obtain⟨oR,HH,ie,H1,H2⟩:=jW hx hi aG h1 h2;rw[hk]at HH;obtain⟨cs,ch,cv⟩:=c;simp only at hs bO n0 n1 n2;subst hs;clear X0 aG hx hi fD fP hc h1 h2;subst hk;unfold bR;go_enter func113,ntmps113;go_wp2_with (first|(go_at_call 170;refine(yd jc.out.aI oR HH).mono ?_;rintro e w1 ⟨rfl,nq,rfl⟩)|(go_at_call 171;refine(sx HX.out.aI ie g bO H1).mono ?_;rintro e wN ⟨rfl,X⟩;obtain⟨r0,r1,r2,r3,r4⟩:=qT X.head;have Hc:=aM X.head 0;have Hd:=aM X.head 1;have Au:=aM X.head 2;have He:=aM X.head 3;have Hf:=aM X.head 4;obtain⟨q0,q1,q2,q3,q4,q5⟩:=jD X.snd;have HY:=ag X;clear X)|(go_at_call 172;refine(sy HX.out.aI ie g bO H1).mono ?_;rintro e wN ⟨rfl,X⟩;obtain⟨r0,r1,r2,r3,r4⟩:=qT X.head;have Hc:=aM X.head 0;have Hd:=aM X.head 1;have Au:=aM X.head 2;have He:=aM X.head 3;have Hf:=aM X.head 4;obtain⟨q0,q1,q2,q3,q4,q5⟩:=jD X.snd;have HY:=ag X;clear X));have Y5:=HY.out.xF (Nat.le_succ_of_le xW) E8 (I r.aJ) (I r.case) (I r.v) (B r.ok) (I r.n);have HY5:=ag Y5;clear Y5;go_wp2_with (go_at_call 114;refine(Bl (S:=S1) HY5.out.aI H2).mono ?_;rintro e wM ⟨rfl,X⟩;have HZ:=ag X;clear X);exact bc7
theorem Cl(h1:(c.cF=true∧j4 S g c=some (S1,r,true,false))∨(c.cF=false∧j5 S g c=some (S1,r,true,false)))(x1:bI)(h2:S1.gs[g]?=some x1):Calls prog 113 #[bR F,I g,.agg #[I o.ai,I o.ch,I o.n,I o.v,.slice (some ⟨nb,0,none⟩) o.cases.length cc,B o.dG]] w (ee fun w'=>∃m',AB af F m0 w0 m' w' (S1.ay g (eZ {x1 with res:={r with case:=i},point:=S1.av,fire:=i} 30)) L):=by
 rcases h1 with⟨hs,h1⟩|⟨hs,h1⟩
 all_goals
  have vA:k<o.cases.length:=cA hc;have Jl:1≤o.cases.length:=oX
  obtain⟨n0,n1,n2⟩:=fP w (X0.loc _ fD).1 k c hc;have Vb:nb<w.heap.size:=(dh (X0.loc _ fD).1).1;have jc:=ag (X0.alloc (eD o (some ⟨nb,0,none⟩) cc));have HX:=ag (X0.vn (eD o (some ⟨nb,0,none⟩) cc) (.cells #[I 0,I 0,I 0,B false,I 0] 44));have E8:=ag (X0.Ql (eD o (some ⟨nb,0,none⟩) cc));have xW:=ag X0.sizeLe;obtain⟨oR,HH,ie,H1,H2⟩:=jW hx hi aG h1 h2;rw[hk]at HH;obtain⟨cs,ch,cv⟩:=c;simp only at hs bO n0 n1 n2;subst hs;clear X0 aG hx hi fD fP hc h1 h2;subst hk;unfold bR;go_enter func113,ntmps113;go_upto_region 11 with(first|(go_at_call 170;refine(yd jc.out.aI oR HH).mono ?_;rintro e w1 ⟨rfl,nq,rfl⟩)|(go_at_call 171;refine(sx HX.out.aI ie g bO H1).mono ?_;rintro e wN ⟨rfl,X⟩;obtain⟨r0,r1,r2,r3,r4⟩:=qT X.head;have Hc:=aM X.head 0;have Hd:=aM X.head 1;have Au:=aM X.head 2;have He:=aM X.head 3;have Hf:=aM X.head 4;obtain⟨q0,q1,q2,q3,q4,q5⟩:=jD X.snd;have HY:=ag X;clear X)|(go_at_call 172;refine(sy HX.out.aI ie g bO H1).mono ?_;rintro e wN ⟨rfl,X⟩;obtain⟨r0,r1,r2,r3,r4⟩:=qT X.head;have Hc:=aM X.head 0;have Hd:=aM X.head 1;have Au:=aM X.head 2;have He:=aM X.head 3;have Hf:=aM X.head 4;obtain⟨q0,q1,q2,q3,q4,q5⟩:=jD X.snd;have HY:=ag X;clear X))
  have Y5:=HY.out.xF (Nat.le_succ_of_le xW) E8 (I r.aJ) (I r.case) (I r.v) (B r.ok) (I r.n);obtain⟨w5,Ha,X⟩:∃w5,w5=_∧AB af F m0 w0 m w5 S1 _:=⟨_,rfl,Y5⟩;rw[←Ha];have HY6:=ag (X.case (Nat.le_succ_of_le xW) E8 (I k));clear Ha r0 r1 r2 r3 r4 Hc Hd Au He Hf q0 q1 q2 q3 q4 q5;obtain⟨r0,r1,r2,r3,r4⟩:=qT X.head;have Hc:=aM X.head 0;have Hd:=aM X.head 1;have Au:=aM X.head 2;have He:=aM X.head 3;have Hf:=aM X.head 4;obtain⟨q0,q1,q2,q3,q4,q5⟩:=jD X.snd;clear X;clear Y5;go_wp2_with (go_at_call 173;refine(TL (S:=S1) HY6.out.aI H2 {r with case:=k}).mono ?_;rintro e wM ⟨rfl,X⟩;have HZ:=ag X;clear X);exact bc7
theorem Cm(h1:(c.cF=true∧j4 S g c=some (S1,r,false,false))∨(c.cF=false∧j5 S g c=some (S1,r,false,false)))(S':Wd)(h2:j3 S1 g o=some S'):Calls prog 113 #[bR F,I g,.agg #[I o.ai,I o.ch,I o.n,I o.v,.slice (some ⟨nb,0,none⟩) o.cases.length cc,B o.dG]] w (ee fun w'=>∃m',AB af F m0 w0 m' w' S' L):=by
 rcases h1 with⟨hs,h1⟩|⟨hs,h1⟩
 all_goals
  have vA:k<o.cases.length:=cA hc;have Jl:1≤o.cases.length:=oX
  obtain⟨n0,n1,n2⟩:=fP w (X0.loc _ fD).1 k c hc;have Vb:nb<w.heap.size:=(dh (X0.loc _ fD).1).1;have jc:=ag (X0.alloc (eD o (some ⟨nb,0,none⟩) cc));have HX:=ag (X0.vn (eD o (some ⟨nb,0,none⟩) cc) (.cells #[I 0,I 0,I 0,B false,I 0] 44));have E8:=ag (X0.Ql (eD o (some ⟨nb,0,none⟩) cc));have xW:=ag X0.sizeLe;obtain⟨oR,HH,ie,H1,H2⟩:=jW hx hi aG h1 h2;rw[hk]at HH;obtain⟨cs,ch,cv⟩:=c;simp only at hs bO n0 n1 n2;subst hs;clear X0 aG hx hi fD fP hc h1 h2;subst hk;unfold bR;go_enter func113,ntmps113;go_wp2_with (first|(go_at_call 170;refine(yd jc.out.aI oR HH).mono ?_;rintro e w1 ⟨rfl,nq,rfl⟩)|(go_at_call 171;refine(sx HX.out.aI ie g bO H1).mono ?_;rintro e wN ⟨rfl,X⟩;obtain⟨r0,r1,r2,r3,r4⟩:=qT X.head;have Hc:=aM X.head 0;have Hd:=aM X.head 1;have Au:=aM X.head 2;have He:=aM X.head 3;have Hf:=aM X.head 4;obtain⟨q0,q1,q2,q3,q4,q5⟩:=jD X.snd;have HY:=ag X;clear X)|(go_at_call 172;refine(sy HX.out.aI ie g bO H1).mono ?_;rintro e wN ⟨rfl,X⟩;obtain⟨r0,r1,r2,r3,r4⟩:=qT X.head;have Hc:=aM X.head 0;have Hd:=aM X.head 1;have Au:=aM X.head 2;have He:=aM X.head 3;have Hf:=aM X.head 4;obtain⟨q0,q1,q2,q3,q4,q5⟩:=jD X.snd;have HY:=ag X;clear X));have Y5:=HY.out.xF (Nat.le_succ_of_le xW) E8 (I r.aJ) (I r.case) (I r.v) (B r.ok) (I r.n);have HY5:=ag Y5;clear Y5;go_wp2_with (go_at_call 174;refine(Gj (S:=S1) HY5.out.aI g dj Jl (some ⟨nb,0,none⟩) cc H2).mono ?_;rintro e wM ⟨rfl,mN,X⟩;have HZ:=ag X;clear X);exact bc7
end
theorem qW{o:cu}{i:Int}{c:Case}(h:iF o i=some c):∃k:Nat,i=k∧o.cases[k]?=some c∧ -1000000000≤c.ch∧c.ch≤1000000000:=by
 unfold iF at h;simp only[bW,cI]at h;obtain⟨c2,h1,h2⟩:=h;obtain⟨k,hk,_,hc⟩:=mO h1;by_cases ho:kJ c2.ch=true
 ·rw[aF ho]at h2
  cases h2;exact⟨k,hk,hc,Ka.1 ho⟩
 ·rw[aE ho]at h2;cases h2
theorem TM(X0:AB af F m0 w0 m w S L)(aG:Good S)(g:Nat)(o:cu)(dj:o.cases.length≤1000)(nb:Nat)(ob:Obj)(fD:(nb,ob)∈L)(fP:CB nb ob o.cases)(cc:Nat)(S':Wd)(hm:uE S g o=some S'):Calls prog 113 #[.pointer (some ⟨F.al,0,none⟩),I g,.agg #[I o.ai,I o.ch,I o.n,I o.v,.slice (some ⟨nb,0,none⟩) o.cases.length cc,B o.dG]] w (ee fun w'=>∃m',AB af F m0 w0 m' w' S' L):=by
 unfold uE at hm;simp only[bW,cI]at hm;obtain⟨x,hx,i,hi,c,hc,hm⟩:=hm;obtain⟨k,hk,BG,bO⟩:=qW hc
 cases hs:c.cF with
 |true=>
  rw[hs]at hm;simp only[dt,cI]at hm;obtain⟨⟨S1,r,dn,tk⟩,h1,hm⟩:=hm
  cases tk with
  |true=>
   simp only[dt]at hm;exact zN X0 aG g x hx i hi o dj nb ob fD fP cc k hk c BG bO S1 r dn (.inl ⟨hs,h1⟩) S' hm
  |false=>
   simp only[nW,dF]at hm
   cases dn with
   |true=>
    simp only[dt]at hm;unfold te fL at hm
    cases eE:S1.gs[g]? with
    |none=>rw[eE]at hm;cases hm
    |some x1=>
     rw[eE]at hm
     cases hm;exact Cl X0 aG g x hx i hi o dj nb ob fD fP cc k hk c BG bO S1 r (.inl ⟨hs,h1⟩) x1 eE
   |false=>
    simp only[nW,dF]at hm;exact Cm X0 aG g x hx i hi o dj nb ob fD fP cc k hk c BG bO S1 r (.inl ⟨hs,h1⟩) S' hm
 |false=>
  rw[hs]at hm;simp only[nW,dF,cI]at hm;obtain⟨⟨S1,r,dn,tk⟩,h1,hm⟩:=hm
  cases tk with
  |true=>
   simp only[dt]at hm;exact zN X0 aG g x hx i hi o dj nb ob fD fP cc k hk c BG bO S1 r dn (.inr ⟨hs,h1⟩) S' hm
  |false=>
   simp only[nW,dF]at hm
   cases dn with
   |true=>
    simp only[dt]at hm;unfold te fL at hm
    cases eE:S1.gs[g]? with
    |none=>rw[eE]at hm;cases hm
    |some x1=>
     rw[eE]at hm
     cases hm;exact Cl X0 aG g x hx i hi o dj nb ob fD fP cc k hk c BG bO S1 r (.inr ⟨hs,h1⟩) x1 eE
   |false=>
    simp only[nW,dF]at hm;exact Cm X0 aG g x hx i hi o dj nb ob fD fP cc k hk c BG bO S1 r (.inr ⟨hs,h1⟩) S' hm
section
variable(X:AB af F m0 w0 m w S L)
include X
theorem AB.ye(o:Obj){n:Nat}(h:w.heap.size=n):AB af F m0 w0 m (w.alloc o) S ((n,o)::L):=h▸X.alloc o
theorem Qn{g:Nat}{x:bI}(hx:S.gs[g]?=some x){h:Int}(hh:dU x=some h)(n:Nat):Calls prog 170 #[bR F,I g] (w.drewN n) fun e w'=>e=.returned (I h)∧∃q,w'=(w.drewN n).drewN q:=
 yd (X.aI (w':=w.drewN n) rfl rfl rfl rfl) hx hh
theorem aI7{g:Nat}{x:bI}(hx:S.gs[g]?=some x)(p:Int):Calls prog 175 #[bR F,I g,I p] w (ee fun w'=>AB af F m0 w0 m w' (S.ay g (eZ x p)) L):=
 (tj X.bj g x hx p).mono fun e w' ⟨h1,h2⟩=>⟨h1,X.av h2⟩
theorem AB.Qo:∀p∈L,p.1≠w.heap.size:=by
 intro p hp;have:=(dh (X.loc p hp).1).1;omega
end
theorem AB.val{b:Nat}{a0 a1 a2 a3 a4:Value}(X:AB af F m0 w0 m w S ((b,.cells #[a0,a1,a2,a3,a4] 44)::L))(hb:w0.heap.size≤b)(hL:∀p∈L,p.1≠b)(v:Value):AB af F m0 w0 m (w.setCell ⟨b,2,none⟩ v) S ((b,.cells #[a0,a1,v,a3,a4] 44)::L):=by
 refine⟨X.at_.other (X.loc _ (rn ..)).2 hb _,fun p hp=>?_⟩;rcases iL.1 hp with h|h
 ·subst h;exact⟨heap_setCell_same _ b 2 _ _ v X.head,(X.loc (b,.cells #[a0,a1,a2,a3,a4] 44) (rn ..)).2⟩
 ·exact bf3
section
variable(X0:AB af F m0 w0 m w S L)(g:Nat)(x:bI)(hx:S.gs[g]?=some x)(i:Int)(hi:dU x=some i)(o:cu)(nb:Nat)(ob:Obj)(fD:(nb,ob)∈L)(fP:CB nb ob o.cases)(cc:Nat)(k:Nat)(hk:i=k)(c:Case)(hc:o.cases[k]?=some c)
include X0 g x hx i hi o nb ob fD fP cc k hk c hc
theorem Jo(hs:c.cF=true)(s:Nat)(hh:x.br=s)(S1:Wd)(h1:fZ S s=some S1)(sd:gn)(RY:S1.ah[s]?=some sd)(S3:Wd)(h3:Mach.serve (S1.cJ s {sd with v:=c.v}) g s true=some S3)(x3:bI)(nM:S3.gs[g]?=some x3):Calls prog 115 #[bR F,I g,.agg #[I o.ai,I o.ch,I o.n,I o.v,.slice (some ⟨nb,0,none⟩) o.cases.length cc,B o.dG]] w (ee fun w'=>∃m',AB af F m0 w0 m' w' (S3.ay g (eZ {x3 with res:={aJ:=1,case:=k,ok:=true,v:=0}} 30)) L):=by
 have vA:k<o.cases.length:=cA hc;have eM:=cA hx;obtain⟨n0,n1,n2⟩:=fP w (X0.loc _ fD).1 k c hc;have Vb:nb<w.heap.size:=(dh (X0.loc _ fD).1).1;have R:=X0.bj;have c3:=R.eu;have c8:=R.dR;have g9:=R.g hx 9 _ rfl;rw[hh]at g9;obtain⟨aU,cm,aY,aZ⟩:=R.pB;obtain⟨cs,ch,cv⟩:=c;simp only at hs n0 n1 n2 h3;subst hs;subst hk;have jc:=ag (X0.alloc (eD o (some ⟨nb,0,none⟩) cc));have HX:=ag (X0.vn (eD o (some ⟨nb,0,none⟩) cc) (.cells #[B true,I ch,I cv] 52));have HQ:=ag (fun n=>Qn jc hx hi n);have xW:=ag X0.sizeLe;obtain⟨oR,HH,H1,H3,qH,oh⟩:=mr hx hi h1 h3 RY nM;have mj:s<S1.ah.length:=cA RY;clear X0 R hx hi fD fP hc h1 h3 RY nM hh;unfold bR;go_enter func115,ntmps115;go_wp2_with fail
 go_quiet ((go_at_call 170;exact Calls.quiet_of (HQ _)));go_wp2_with (go_at_call 150;refine(u7 HX.out.aI H1).mono ?_;rintro e wN ⟨⟨bb,rfl⟩,X⟩;have RN:=X.bj;obtain⟨q0,q1,q2⟩:=Bd X.head;have d9:=RN.ed;have s5:=RN.s qH 5 _ rfl;have fs5:=RN.frozen RN.aB.ah (s*7+5);have lb1:=(dh X.head).1;have l1:=RN.lt RN.aB.al;have l2:=RN.lt RN.aB.ah;have l3:=RN.lt RN.aB.gs;have HY:=ag X;clear X RN);have Y1:=HY.out.s qH {sd with v:=cv} (q:=5) (v:=I cv) oX rfl;have HZ:=ag (Y1.ye (n:=wN.heap.size) (.cells #[I 1,I k,I 0,B true,I 0] 44) sX);clear Y1;go_region
 all_goals
  go_wp2_with (go_at_call 152;refine(vj (S:=S1.cJ s {sd with v:=cv}) HZ.out.aI H3).mono ?_;rintro e wM ⟨rfl,mN,X⟩;have RM:=X.bj;obtain⟨r0,r1,r2,r3,r4⟩:=qT X.head;have Ip:=RM.g oh 15 _ rfl;have Dm:=RM.frozen RM.aB.gs (g*25+15);have UZ:=RM.g oh 16 _ rfl;have Fz:=RM.frozen RM.aB.gs (g*25+16);have U0:=RM.g oh 17 _ rfl;have FA:=RM.frozen RM.aB.gs (g*25+17);have FB:=RM.g oh 18 _ rfl;have FC:=RM.frozen RM.aB.gs (g*25+18);have p19:=RM.g oh 19 _ rfl;have FD:=RM.frozen RM.aB.gs (g*25+19);have HV:=ag (X.res oh {aJ:=1,case:=k,ok:=true,v:=0});clear X RM);go_wp2_with (go_at_call 175;refine(aI7 (S:=S3.ay g {x3 with res:={aJ:=1,case:=k,ok:=true,v:=0}}) HV.out.aI (az oh) 30).mono ?_;rintro e wK ⟨rfl,X⟩;rw[aA]at X;have HW:=ag X;clear X);exact bh4
theorem Jp(hs:c.cF=false)(bO:eX c.ch)(s:Nat)(hh:x.br=s)(S1:Wd)(h1:fZ S s=some S1)(aG:Good S1)(S2:Wd)(v:Int)(hv:ik S1 c.ch s=some (S2,v))(S3:Wd)(h3:Mach.serve S2 g s true=some S3)(x3:bI)(nM:S3.gs[g]?=some x3):Calls prog 115 #[bR F,I g,.agg #[I o.ai,I o.ch,I o.n,I o.v,.slice (some ⟨nb,0,none⟩) o.cases.length cc,B o.dG]] w (ee fun w'=>∃m',AB af F m0 w0 m' w' (S3.ay g (eZ {x3 with res:={aJ:=1,case:=k,ok:=true,v:=v}} 30)) L):=by
 have vA:k<o.cases.length:=cA hc;have eM:=cA hx;obtain⟨n0,n1,n2⟩:=fP w (X0.loc _ fD).1 k c hc;have Vb:nb<w.heap.size:=(dh (X0.loc _ fD).1).1;have R:=X0.bj;have c3:=R.eu;have c8:=R.dR;have g9:=R.g hx 9 _ rfl;rw[hh]at g9;obtain⟨aU,cm,aY,aZ⟩:=R.pB;obtain⟨cs,ch,cv⟩:=c;simp only at hs n0 n1 n2 hv bO;subst hs;subst hk;have jc:=ag (X0.alloc (eD o (some ⟨nb,0,none⟩) cc));have HX:=ag (X0.vn (eD o (some ⟨nb,0,none⟩) cc) (.cells #[B false,I ch,I cv] 52));have HQ:=ag (fun n=>Qn jc hx hi n);have xW:=ag X0.sizeLe;obtain⟨oR,HH,H1,H3,HV0,ie⟩:=mr hx hi h1 h3 hv aG;have oh:=ag nM;clear X0 R hx hi fD fP hc h1 h3 hv aG nM hh;unfold bR;go_enter func115,ntmps115;go_wp2_with fail
 go_quiet ((go_at_call 170;exact Calls.quiet_of (HQ _)));go_wp2_with (go_at_call 150;refine(u7 HX.out.aI H1).mono ?_;rintro e wN ⟨⟨bb,rfl⟩,X⟩;have RN:=X.bj;obtain⟨q0,q1,q2⟩:=Bd X.head;have lb1:=(dh X.head).1;have l1:=RN.lt RN.aB.al;have l3:=RN.lt RN.aB.gs;have HY:=ag X;clear X RN);have HZ:=ag (HY.out.ye (n:=wN.heap.size) (.cells #[I 1,I k,I 0,B true,I 0] 44) rfl);have E8:=ag (HY.out.Qo);have HSN:Hid (w0.heap.size≤wN.heap.size):=HY.out.sizeLe;go_wp2_with (go_at_call 165;refine(Gk (S:=S1) HZ.out.aI ie bO HV0).mono ?_;rintro e wP ⟨rfl,X⟩;obtain⟨r0,r1,r2,r3,r4⟩:=qT X.head;have Au:=aM X.head 2;have HP:=ag (X.val HSN E8 (I v));clear X);go_wp2_with (go_at_call 152;refine(vj (S:=S2) HP.out.aI H3).mono ?_;rintro e wM ⟨rfl,mN,X⟩;have RM:=X.bj;obtain⟨r0,r1,r2,r3,r4⟩:=qT X.head;have Ip:=RM.g oh 15 _ rfl;have Dm:=RM.frozen RM.aB.gs (g*25+15);have UZ:=RM.g oh 16 _ rfl;have Fz:=RM.frozen RM.aB.gs (g*25+16);have U0:=RM.g oh 17 _ rfl;have FA:=RM.frozen RM.aB.gs (g*25+17);have FB:=RM.g oh 18 _ rfl;have FC:=RM.frozen RM.aB.gs (g*25+18);have p19:=RM.g oh 19 _ rfl;have FD:=RM.frozen RM.aB.gs (g*25+19);have HV:=ag (X.res oh {aJ:=1,case:=k,ok:=true,v:=v});clear X RM);go_wp2_with (go_at_call 175;refine(aI7 (S:=S3.ay g {x3 with res:={aJ:=1,case:=k,ok:=true,v:=v}}) HV.out.aI (az oh) 30).mono ?_;rintro e wK ⟨rfl,X⟩;rw[aA]at X;have HW:=ag X;clear X);exact bh4
end
end
open Go.ChangeShapes Go.WideShapes Go.ChangeAt Go.Deep
theorem own:ownKnob prog.godebug=none:=kX
theorem laidOut:laidOutB prog=true:=kX
section
variable{H:Type}{enc:TypeId×Value→H}{W:World}
theorem QY{k:Int}(h:(Lit.int .i64 k).wf=true):pW k:=by
 exact bd9
theorem Xd{k:Int}(h:(Lit.int .u16 k).wf=true):0≤k∧k≤65535:=by
 exact bd9
theorem KU{T E f:Nat}{k:IntKind}{v:Value}{x:DataW H×List MemPlace}(ht:prog.underlying T=some (.slice E))(he:prog.underlying E=some (.int k))(hc:prog.cellsOf E=1)(hf:DataW.trod enc prog W 0 (fun _=>true) true f T [v]=some x):∃a n c,v=.slice a n c∧∃zs:List Int,n=zs.length∧Rd k W a zs∧∀z∈zs,(Lit.int k z).wf=true:=by
 rcases open_ints ht he hc hf with⟨fa,_⟩|⟨x,l,c',zs,fa,_,hl,hm,hz,_,j8,hwz⟩
 ·simp at fa;exact⟨_,_,_,fa,[],rfl,⟨sX,fun h=>bj5⟩,sX⟩
 ·simp at fa;have hzc:zs.length=c':=by simpa using hz
  have cP:(zs.take l).length=l:=bi8
  refine⟨_,_,_,fa,zs.take l,cP.symm,⟨by rw[cP];unfold maxLen at hm;omega,fun h0=>?_⟩,fun z hz=>hwz z (List.mem_of_mem_take hz)⟩;obtain⟨b,off,spot⟩:=x;have Dj:=j8 0 oX;have Ag:spot=none:=by simpa[Addr.add]using World.cell?_spot Dj
  subst Ag;refine⟨b,off,rfl,fun j hj=>?_⟩;have Vr:j<l:=oX
  have:=j8 j oX;rw[Addr.add_lit]at this;rw[this];simp[List.getD,Vr]
theorem oT{α:Type}{p:Nat→α→Prop}(n:Nat)(h:∀i,i<n→∃x,p i x):∃l:List α,l.length=n∧∀(i:Nat) x,l[i]?=some x→p i x:=by
 induction n with
 |zero=>exact⟨[],rfl,fun i x hi=>by simp at hi⟩
 |succ n ih=>
  obtain⟨l,hl,hp⟩:=ih fun i hi=>h i oX
  obtain⟨x,hx⟩:=h n oX;refine⟨l++[x],by simp[hl],fun i y hi=>?_⟩;rcases Nat.lt_or_ge i n with h1|h1
  ·rw[Ev oX]at hi;exact hp i y hi
  ·rw[Ew oX,hl]at hi;have kL:i-n<1:=by have:=cA hi;simpa using this
   obtain rfl:i=n:=oX
   simp at hi;subst hi;exact hx
theorem sI{t f:Nat}{fs:Array Field}{cs:List Value}{x:DataW H×List MemPlace}(ht:prog.underlying t=some (.struct fs))(VZ:oneCellFields prog fs=true)(hd:DataW.trod enc prog W 0 (fun _=>true) true f t cs=some x):cs.length=prog.cellsOf t∧∀(j:Nat) (g:Field),fs[j]?=some g→∀v,cs[j]?=some v→∃n y,DataW.trod enc prog W 0 (fun _=>true) true n g.type [v]=some y:=by
 obtain⟨xs,n,_,_,cP,vI,hf⟩:=DataW.trod_struct ht hd;refine⟨cP,fun j g hg v hv=>?_⟩;obtain⟨ho,hk⟩:=hone_of VZ j g hg;have h1:=hf j g hg;have hj:j<xs.length:=by rw[vI];exact(dh hg).1
 rw[ho,hk,fv hj]at h1;have h2:(cs.drop j).take 1=[v]:=by obtain⟨Vr,rfl⟩:=uC hv;rw[List.drop_eq_getElem_cons Vr];rfl
 rw[h2]at h1;exact⟨n,_,h1⟩
section
variable{T f:Nat}{v:Value}{x:DataW H×List MemPlace}
theorem nF(ht:prog.underlying T=some (.int .i64))(hd:DataW.trod enc prog W 0 (fun _=>true) true f T [v]=some x):∃z,v=I z∧pW z:=by
 obtain⟨z,hz,_,hw⟩:=DataW.trod_int ht hd;simp at hz;exact⟨z,hz,QY hw⟩
theorem QZ(ht:prog.underlying T=some .bool)(hd:DataW.trod enc prog W 0 (fun _=>true) true f T [v]=some x):∃z,v=B z:=by
 obtain⟨z,hz,_⟩:=DataW.trod_bool ht hd;simp at hz;exact⟨z,hz⟩
end
theorem xm{w:World}{af k:Nat}{a:Addr}(hk:0<k)(h:∃cs,w.cells? af (a.add (0*k)) k=some cs):a.spot=none:=by
 obtain⟨cs,hc⟩:=h;obtain⟨_,hl,ks⟩:=World.cells?_some hc;have h0:=ks 0 hk;rw[fv oX]at h0;simpa[Addr.add]using World.cell?_spot h0
section
variable{f:Nat}{v:Value}{x:DataW H×List MemPlace}
theorem JI(hd:DataW.trod enc prog W 0 (fun _=>true) true f 47 [v]=some x):∃a n c,v=.slice a n c∧∃cs:List Case,n=cs.length∧gW W a cs:=by
 rcases open_slice underlying47 hd with⟨fa,_⟩|⟨a,n,c,m,n',D,Pl,fa,_,hl,hm,hmm,_,hi⟩
 ·exact bb8
 ·simp at fa;have hnm:n≤m:=by rw[hmm];split<;>omega
  obtain⟨l,El,pJ⟩:=oT (p:=fun j (o:Case)=>∃b off,some a=some (⟨b,off,none⟩:Addr)∧
    W.cell? ⟨b,off+j*3,none⟩=some (B o.cF)∧W.cell? ⟨b,off+j*3+1,none⟩=some (I o.ch)∧W.cell? ⟨b,off+j*3+2,none⟩=some (I o.v)∧pW o.ch∧pW o.v) n (fun j hj=>by
   obtain⟨cs',hc,NU⟩:=hi j oX;have h3:prog.cellsOf 52=3:=kX;rw[h3]at hc;obtain⟨gm,hf⟩:=sI underlying52 kX NU;obtain⟨_,_,ks⟩:=World.cells?_some hc;rw[h3]at gm;match cs',gm with
   | [v0,v1,v2],_=>
    obtain⟨n0,y0,h0⟩:=hf 0 _ rfl v0 rfl;obtain⟨n1,y1,h1⟩:=hf 1 _ rfl v1 rfl;obtain⟨n2,y2,h2⟩:=hf 2 _ rfl v2 rfl;obtain⟨b0,rfl⟩:=QZ underlying4 h0;obtain⟨z1,rfl,i1⟩:=nF underlying3 h1;obtain⟨z2,rfl,i2⟩:=nF underlying2 h2;have Ag:=xm (by rw[h3];omega) ((hi 0 oX).imp fun _ h=>h.1);obtain⟨b,off,spot⟩:=a;subst Ag;have e:=fun q (hq:q<3)=>ks q hq
    simp only[Addr.add_lit]at e;exact⟨⟨b0,z1,z2⟩,b,off,rfl,e 0 oX,e 1 oX,e 2 oX,i1,i2⟩)
  exact⟨_,_,_,fa,l,El.symm,bu1,pJ⟩
theorem Q1(hd:DataW.trod enc prog W 0 (fun _=>true) true f 50 [v]=some x):∃a n c,v=.slice a n c∧∃cs:List cu,n=cs.length∧kC W a cs:=by
 rcases open_slice underlying50 hd with⟨fa,_⟩|⟨a,n,c,m,n',D,Pl,fa,_,hl,hm,hmm,_,hi⟩
 ·exact bb8
 ·simp at fa;have hnm:n≤m:=by rw[hmm];split<;>omega
  obtain⟨l,El,pJ⟩:=oT (p:=fun j (o:cu)=>∃b off x cx,some a=some (⟨b,off,none⟩:Addr)∧
    W.cell? ⟨b,off+j*6,none⟩=some (I o.ai)∧W.cell? ⟨b,off+j*6+1,none⟩=some (I o.ch)∧W.cell? ⟨b,off+j*6+2,none⟩=some (I o.n)∧W.cell? ⟨b,off+j*6+3,none⟩=some (I o.v)∧
    W.cell? ⟨b,off+j*6+4,none⟩=some (.slice x o.cases.length cx)∧W.cell? ⟨b,off+j*6+5,none⟩=some (B o.dG)∧gW W x o.cases∧pW o.ai∧pW o.ch∧pW o.n∧pW o.v) n (fun j hj=>by
   obtain⟨cs',hc,NU⟩:=hi j oX;have h6:prog.cellsOf 49=6:=kX;rw[h6]at hc;obtain⟨gm,hf⟩:=sI underlying49 kX NU;obtain⟨_,_,ks⟩:=World.cells?_some hc;rw[h6]at gm;match cs',gm with
   | [v0,v1,v2,v3,v4,v5],_=>
    obtain⟨n4,y4,h4⟩:=hf 4 _ rfl v4 rfl;obtain⟨x,k,cx,rfl,cc,hk,mP⟩:=JI h4;obtain⟨n0,y0,h0⟩:=hf 0 _ rfl v0 rfl;obtain⟨n1,y1,h1⟩:=hf 1 _ rfl v1 rfl;obtain⟨n2,y2,h2⟩:=hf 2 _ rfl v2 rfl;obtain⟨n3,y3,h3⟩:=hf 3 _ rfl v3 rfl;obtain⟨n5,y5,h5⟩:=hf 5 _ rfl v5 rfl;obtain⟨z0,rfl,i0⟩:=nF underlying3 h0;obtain⟨z1,rfl,i1⟩:=nF underlying3 h1;obtain⟨z2,rfl,i2⟩:=nF underlying3 h2;obtain⟨z3,rfl,i3⟩:=nF underlying2 h3;obtain⟨b5,rfl⟩:=QZ underlying4 h5;have Ag:=xm (by rw[h6];omega) ((hi 0 oX).imp fun _ h=>h.1);obtain⟨b,off,spot⟩:=a;subst Ag;have e:=fun q (hq:q<6)=>ks q hq
    simp only[Addr.add_lit]at e;subst hk;exact⟨⟨z0,z1,z2,z3,cc,b5⟩,b,off,x,cx,rfl,e 0 oX,e 1 oX,e 2 oX,e 3 oX,e 4 oX,e 5 oX,mP,i0,i1,i2,i3⟩)
  exact⟨_,_,_,fa,l,El.symm,bu1,pJ⟩
theorem M3(hd:DataW.trod enc prog W 0 (fun _=>true) true f 22 [v]=some x):∃a n c,v=.slice a n c∧∃p:List (List cu),n=p.length∧aH1 W a p:=by
 rcases open_slice1 underlying22 kX hd with⟨fa,_⟩|⟨a',n,c',m,q,V,D,Pl,fa,_,hl,hm,hmm,_,hi⟩
 ·exact bb8
 ·simp at fa;have hnm:n≤m:=by rw[hmm];split<;>omega
  obtain⟨l,El,pJ⟩:=oT (p:=fun i (os:List cu)=>∃b off r c,some a'=some (⟨b,off,none⟩:Addr)∧W.cell? ⟨b,off+i,none⟩=some (.slice r os.length c)∧kC W r os) n (fun i kL=>by obtain⟨hc,ht⟩:=hi i oX;obtain⟨x,k,cx,hx,cs,hk,ho⟩:=Q1 ht;obtain⟨b,off,spot⟩:=a';have Ag:spot=none:=(by simpa[Addr.add]using World.cell?_spot (hi 0 oX).1);subst Ag;rw[Addr.add_lit,hx,hk]at hc;exact⟨cs,b,off,x,cx,rfl,hc,ho⟩);exact⟨_,_,_,fa,l,El.symm,bu1,pJ⟩
end
section
variable{r:Reach}{b0:Nat}{v:Value}{d:DataW H}{p:List MemPlace}
theorem JJ(hv:Value.okWide prog W r b0 27 v)(hd:DataW.Trod enc prog W 0 (fun _=>true) true 27 v d p):∃a n ca x y da nd cd,v=.agg #[.slice a n ca,I x,I y,.slice da nd cd]∧∃(p:List (List cu)) (draws:List Int),n=p.length∧aH1 W a p∧nd=draws.length∧Rd .u16 W da draws∧∀z∈draws,0≤z∧z≤65535:=by
 obtain⟨cs,rfl,hsz⟩:=okWide_struct underlying27 hv;obtain⟨fuel,hf⟩:=hd;have h4:prog.cellsOf 27=4:=kX
 obtain⟨y0,y1,y2,n,_,_,h0,h1,h2⟩:=trod_struct3 underlying27 hf;obtain⟨l⟩:=cs;rw[h4]at hsz;match l,hsz with
 | [v0,v1,v2,v3],_=>
  have k1:prog.cellsOf 22=1:=kX
  have k2:prog.cellsOf 24=2:=kX
  have k3:prog.cellsOf 25=1:=kX
  simp only[Value.cells,k1,k2,k3,List.drop,List.take]at h0 h1 h2;obtain⟨a,n,ca,rfl,p,hn,hp⟩:=M3 h0;obtain⟨_,hf1⟩:=sI underlying24 kX h1;obtain⟨n0,z0,g0⟩:=hf1 0 _ rfl v1 rfl;obtain⟨n1,z1,g1⟩:=hf1 1 _ rfl v2 rfl;obtain⟨x,rfl,_⟩:=nF underlying3 g0;obtain⟨y,rfl,_⟩:=nF underlying3 g1;obtain⟨da,nd,cd,rfl,draws,fX,jF,hw⟩:=KU underlying25 (k:=.u16) (by first|exact underlying65|kernel_rfl) kX h2;exact⟨a,n,ca,x,y,da,nd,cd,rfl,p,draws,hn,hp,fX,jF,fun z hz=>Xd (hw z hz)⟩
theorem M4(hv:Value.okWide prog W r b0 28 v)(hd:DataW.Trod enc prog W 0 (fun _=>true) true 28 v d p):∃a n c,v=.slice a n c∧∃zs:List Int,n=zs.length∧Rd .i64 W a zs∧∀z∈zs,-9223372036854775808≤z∧z≤9223372036854775807:=by
 obtain⟨a,n,c,rfl⟩:=okWide_slice underlying28 hv;obtain⟨f,hf⟩:=hd;obtain⟨a',n',c',e,zs,h1,h2,h3⟩:=KU underlying28 underlying3 kX (by simpa[Value.cells]using hf);simp at e;obtain⟨rfl,rfl,rfl⟩:=e;exact⟨a,n,c,rfl,zs,h1,h2,fun z hz=>QY (h3 z hz)⟩
end
end
end Go.Proofs.YtadifmnmfnihdaaGreat
