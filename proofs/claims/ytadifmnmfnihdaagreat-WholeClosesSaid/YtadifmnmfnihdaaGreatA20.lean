import Derived.Test.YtadifmnmfnihdaaGreatA19
set_option linter.all false
set_option maxRecDepth 100000
set_option maxHeartbeats 40000000
namespace Go.Proofs.YtadifmnmfnihdaaGreat
open Mach
namespace V
section
variable{w w' w2:Wd}{ls:List (List Nat)}{g z s:Nat}{x x' xA y:bI}{sd:gn}
theorem IY{l:List Int}{i:Nat}(h:i<l.length)(v:Int):put l (i:Int) v=some (l.set i v):=by unfold put;simp[h]
section
variable(I:Inv w ls)(hx:w.gs[g]?=some x)(hs:Na w g)(hk:(aP x).ai=9)
include I hx hs hk
theorem Bc(hp:x.ae=28):∃w',ju w g (aP x)=some w'∧Inv w' ls∧bK w w':=by
 have L:=I.loc g x hx;obtain⟨s1,s2,s3⟩:=L.oW hk oX oX oX oX;have kE:=s2.2.2 oX;obtain⟨i,c,h1,h2,h3,h4,h5,h6,h7,Dn⟩:=oq I hx s1 kE;have hg:g<w.gs.length:=cA hx;have oN:¬aW x:=uy oX;have rl:∀sd,¬eV x sd:=Ca oX;have FM:i<x.bA.length:=bv9
 have Pz:=L.tI (.inl hk);have oE:=L.aN.2 oN;unfold ju;simp only[hx,bW,eN]
 cases eK:(w.Eg.take g).2.2 with
 |true=>
  obtain⟨j,Nf,e1,e2,I1,e3⟩:=I.ZV hg eK {cK:=true,g:=g,ch:=c.ch,case:=i,cF:=c.cF,v:=c.v};simp only[aH6,dF,h1,h3,e1,eQ,e2,IY FM,Dn,eN];have eE:({w.cJ j {cK:=true,g:=g,ch:=c.ch,case:=i,cF:=c.cF,v:=c.v}with Eg:=(w.Eg.take g).1}:Wd).gs[g]?=some x:=hx
  have fin:∀x':bI,x'.ops=x.ops→x'.at_=x.at_→x'.bY=x.bY→x'.bA=x.bA.set i j→x'.wakes=x.wakes→x'.aN=x.aN→x'.fire=x.fire→Loc w.au.length x'→(∀c,aL x' c↔aL x c)→(x'.ae=28∨x'.ae=29)→
    Inv (({w.cJ j {cK:=true,g:=g,ch:=c.ch,case:=i,cF:=c.cF,v:=c.v}with Eg:=(w.Eg.take g).1}:Wd).ay g x') ls∧bK w (({w.cJ j {cK:=true,g:=g,ch:=c.ch,case:=i,cF:=c.cF,v:=c.v}with Eg:=(w.Eg.take g).1}:Wd).ay g x'):=by
   intro x' f0 f1 f2 f3 f4 f5 f6 hL hh kM;have eg:=oM f0 f1;have W:=I1.jU (x':=x') eE (by rw[f4];exact List.Sublist.refl _)
   refine⟨I1.mn eE hL (fun k l s sd _ _ _ _ a c=>aX c (rl sd)) (fun s h=>by rw[f2,Pz]at h;omega) (fun i' s h=>?_) (fun j u s sd _ _ _ _ _ _ a b _ _ _=>aX b oN) (fun h=>bk2) (fun h=>bj9)
    (fun s h=>by rw[f5,oE]at h;omega) W.1 W.2 rfl rfl rfl I1.au rfl rfl (I1.lock.same eE hh) rfl rfl rfl (I1.st.same eE hs (fun h=>aX h oN) f5 (fun h=>oX) oX) (I1.jn.same eE (fun h=>aX h oN) f5 f4 (fun h=>oX)),dW hx f0,rfl,rfl,rfl,rfl,rfl⟩
   rw[f3]at h;by_cases hi:i'=i
   ·subst hi;rw[nH FM]at h;have:s=j:=by have:=mx h;omega
    subst this;refine⟨_,qN _ e2,rfl,rfl,rfl,.inr ⟨bs2,sX,?_,c,?_,rfl,rfl⟩⟩
    ·rw[f3];simp only[oU];rw[nH FM]
    ·rw[eg];simpa using h4
   ·rw[oA (dE hi)]at h;obtain⟨sd,b1,b2,b3,b4,b5⟩:=I.bA g x i' s hx h;have VA:s≠j:=(by rintro rfl;exact e3 g x hx sd b1 b2);refine⟨sd,(OW _ VA).trans b1,b2,b3,b4,?_⟩;rcases b5 with⟨q,_⟩|⟨q1,q2,q3,q4⟩
    ·exact aX hk q
    ·refine .inr ⟨by rw[eg];exact q1,q2,?_,by rw[eg];exact q4⟩;have e6:sd.case.toNat=i':=oX;rw[f3,e6,oA (dE hi)];exact h
  by_cases j7:(x.aH.length:Int)≤x.k+1
  ·rw[aF j7];obtain⟨m2,m3⟩:=M.aq5 L hk hp oX i j h2;exact⟨_,rfl,fin {x with bA:=x.bA.set i j,k:=0,ae:=29} rfl rfl rfl rfl rfl rfl rfl m2 m3 (.inr rfl)⟩
  ·rw[aE j7];obtain⟨m2,m3⟩:=M.aq4 L hk hp oX i j h2;exact⟨_,rfl,fin {x with bA:=x.bA.set i j,k:=x.k+1} rfl rfl rfl rfl rfl rfl rfl m2 m3 (.inl hp)⟩
 |false=>
  simp only[dt];obtain⟨m2,m3⟩:=M.an4 L hk hp;have K:=I.iQ (x':={x with res:={x.res with aJ:=6},k:=x.aq.length,ae:=30}) hx rfl rfl rfl;have W:=I.jU (x':={x with res:={x.res with aJ:=6},k:=x.aq.length,ae:=30}) hx (List.Sublist.refl _);refine⟨w.ay g {x with res:={x.res with aJ:=6},k:=x.aq.length,ae:=30},(by rw[(we I.Eg hg).2 eK];rfl),?_,dW hx rfl,rfl,rfl,rfl,rfl,rfl⟩
  exact I.mn hx m2 (fun k l s sd _ _ _ _ a c=>aX c (rl sd)) K.1 K.2.1 (fun j u s sd _ _ _ _ _ _ a b _ _ _=>aX b oN) (fun h=>bl7) (fun h=>bk9)
   (fun s h=>bj6) W.1 W.2 rfl rfl rfl I.au rfl rfl (I.lock.same hx m3) rfl rfl rfl (I.st.same hx hs (fun h=>aX h oN) rfl sX sX) (I.jn.same hx (fun h=>aX h oN) rfl rfl sX)
theorem DC(hp:x.ae=34):∃w',jK w g=some w'∧Inv w' ls∧bK w w':=by
 have L:=I.loc g x hx;obtain⟨s1,s2,s3⟩:=L.oW hk oX oX oX oX;have kE:=s2.2.2 oX;obtain⟨i,c,h1,h2,h3,h4,h5,h6,h7,Dn⟩:=oq I hx s1 kE;have hg:g<w.gs.length:=cA hx;have oN:¬aW x:=uy oX;have rl:∀sd,¬eV x sd:=Ca oX;have FM:i<x.bA.length:=bv9
 have Pz:=L.tI (.inl hk);have oE:=L.aN.2 oN;have J0:x.wakes=[]:=L.uP oX oX oX oX oX;obtain⟨v,hv⟩:∃v,x.bA[i]?=some v:=⟨_,fv FM⟩;have ei:idx x.bA i=some v:=bv7
 obtain⟨x',th,f0,f1,f2,f4,f5,hL,hh,kM,oo⟩:∃x':bI,x'=(if(x.aH.length:Int)≤x.k+1 then{x with k:=0,bA:=[],ae:=hJ x}else{x with bA:=x.bA.set i (-1),k:=x.k+1})∧x'.ops=x.ops∧x'.at_=x.at_∧x'.bY=x.bY∧x'.wakes=x.wakes∧x'.aN=x.aN∧Loc w.au.length x'∧(∀c,aL x' c↔aL x c)∧(x'.ae=18∨x'.ae=34)∧
   ∀i' s:Nat,x'.bA[i']?=some (s:Int)→i'≠i∧x'.bA=x.bA.set i (-1):=by
  by_cases j7:(x.aH.length:Int)≤x.k+1
  ·obtain⟨m2,m3⟩:=M.aq7 L hk hp;refine⟨_,rfl,?_⟩;rw[aF j7];have e:hJ x=18:=by unfold hJ;rw[aF J0]
   rw[e];exact⟨rfl,rfl,rfl,rfl,rfl,m2,m3,.inl rfl,fun i' s h=>bj5⟩
  ·obtain⟨m2,m3⟩:=M.aq6 L hk hp oX i h2;refine⟨_,rfl,?_⟩;rw[aE j7];refine⟨rfl,rfl,rfl,rfl,rfl,m2,m3,.inr hp,fun i' s h=>⟨fun e=>?_,rfl⟩⟩;subst e;simp only at h;rw[nH FM]at h;have:=mx h;omega
 have eg:=oM f0 f1;have W:=I.jU (x':=x') hx (by rw[f4];exact List.Sublist.refl _)
 have I1:Inv (w.ay g x') ls:=by
  refine I.mn hx hL (fun k l s sd _ _ _ _ a c=>aX c (rl sd)) (fun s h=>by rw[f2,Pz]at h;omega) (fun i' s h=>?_) (fun j u s sd _ _ _ _ _ _ a b _ _ _=>aX b oN) (fun h=>bk2) (fun h=>bj9)
   (fun s h=>by rw[f5,oE]at h;omega) W.1 W.2 rfl rfl rfl I.au rfl rfl (I.lock.same hx hh) rfl rfl rfl (I.st.same hx hs (fun h=>aX h oN) f5 (fun h=>oX) oX) (I.jn.same hx (fun h=>aX h oN) f5 f4 (fun h=>oX))
  obtain⟨cM,Ar⟩:=oo i' s h;have h':=h;rw[Ar,oA (dE cM)]at h;obtain⟨sd,b1,b2,b3,b4,b5⟩:=I.bA g x i' s hx h;refine⟨sd,b1,b2,b3,b4,?_⟩;rcases b5 with⟨q,_⟩|⟨q1,q2,q3,q4⟩
  ·exact aX hk q
  ·refine .inr ⟨by rw[eg];exact q1,q2,?_,by rw[eg];exact q4⟩;have e6:sd.case.toNat=i':=by omega
   rw[e6];exact h'
 have K1:bK w (w.ay g x'):=⟨dW hx f0,rfl,rfl,rfl,rfl,rfl⟩;unfold jK;simp only[hx,h1,ei,bW,eN];by_cases hv1:v= -1
 ·rw[aF hv1];simp only[eN,IY FM,Dn,aH6,dF];rw[←th];exact⟨_,rfl,I1,K1⟩
 ·rw[aE hv1];have Rv:=(s3.own i v hv hv1).1;obtain⟨s,PF⟩:=pz Rv;subst PF;obtain⟨sd,b1,b2,b3,b4,b5⟩:=I.bA g x i s hx hv;simp only[eQ,b1,eN,IY FM,Dn,aH6,dF];rw[←th];have Pc:=I.cK s sd b1 b2;obtain⟨g1,g2,g3⟩:=B7 (g:=g) I.Eg hg Pc;refine⟨_,rfl,?_,dW hx f0,rfl,rfl,rfl,rfl,rfl⟩;refine I1.Wk (s:=s) (sd:=sd) (sd':={}) (p':=(w.Eg.nh g s).1) b1 (fun _ j u hu hj ho=>?_) (by simp only[Wd.ay,kI];exact g3) g2 (fun h=>bk0);obtain rfl:j=g:=by omega
  rw[mH hx]at hu
  cases hu;rcases ho with⟨h,_⟩|⟨_,_,h,_⟩
  ·rw[eg]at h;exact h hk
  ·have e6:sd.case.toNat=i:=by omega
   rw[e6]at h;exact(oo i s h).1 rfl
theorem FY(hp:x.ae=25)(r:nP)(hr:r.aJ=1∨r.aJ=2∨r.aJ=3)(C5:cV (aP x) w.au.length {x with res:=r,point:=w.av,fire:=r.case}):Inv (w.ay g {x with res:=r,point:=w.av,fire:=r.case,k:=x.aq.length,ae:=30}) ls∧bK w (w.ay g {x with res:=r,point:=w.av,fire:=r.case,k:=x.aq.length,ae:=30}):=by
 obtain⟨m1,m2,m3⟩:=M.am8 (I.loc g x hx) hk hp r w.av hr C5;exact I.ku hx hs m1 ⟨sX,sX⟩ m2 m3 rfl
theorem DD(hp:x.ae=25):∃w',j3 w g (aP x)=some w'∧Inv w' ls∧bK w w':=by
 have L:=I.loc g x hx;obtain⟨s1,s2,s3⟩:=L.oW hk oX oX oX oX;have kE:=s2.2.2 oX;obtain⟨i,c,h1,h2,h3,h4,h5,h6,h7,Dn⟩:=oq I hx s1 kE;unfold j3;simp only[hx,Dn,bW,eN,aH6,dF];by_cases dD:x.k+1<x.aH.length
 ·rw[aF dD];obtain⟨m1,m2,m3⟩:=M.am7 L hk hp dD;exact⟨_,rfl,I.ku hx hs m1 ⟨by simp[hp],by simp[hp]⟩ m2 m3 rfl⟩
 ·rw[aE dD]
  cases he:(aP x).dG with
  |true=>
   simp only[dt];unfold te;rw[qK (di (x:=x) {x with k:=x.k+1} hx),cY];refine⟨_,rfl,?_⟩;exact FY I hx hs hk hp {aJ:=2,case:= -1} (.inr (.inl rfl)) (.inr (.inl ⟨rfl,he,rfl⟩))
  |false=>
   simp only[nW,dF];obtain⟨m2,m3⟩:=M.an0 L hk hp he;have oN:¬aW x:=uy oX;have oE:=L.aN.2 oN;have Pz:=L.tI (.inl hk);have W:=I.jU (x':={x with bA:=List.replicate (aP x).cases.length (-1),k:=0,ae:=28}) hx (List.Sublist.refl _);refine⟨_,rfl,?_,dW hx rfl,rfl,rfl,rfl,rfl,rfl⟩
   exact I.mn hx m2 (fun k l s sd _ _ _ _ a c=>aX c (Ca oX sd)) (fun s h=>bj6) (fun i' s h=>by
     simp only[uA]at h;split at h
     ·have:=mx h;omega
     ·cases h) (fun j u s sd _ _ _ _ _ _ a b _ _ _=>aX b oN) (fun h=>bl7) (fun h=>bk9)
    (fun s h=>bj6) W.1 W.2 rfl rfl rfl I.au rfl rfl (I.lock.same hx m3) rfl rfl rfl (I.st.same hx hs (fun h=>aX h oN) rfl sX sX) (I.jn.same hx (fun h=>aX h oN) rfl rfl sX)
theorem zq(hp:x.ae=25){c:Int}(hc:c∈x.aq){kk:Int}(kE:kk=2*c-2∨kk=2*c-1):Mach.take w g kk 26 27=some (w,false)∨∃w1,Mach.take w g kk 26 27=some (w1,true)∧∃w' fM,eH w1 g=some w'∧Inv w' fM∧bK w w':=by
 have L:=I.loc g x hx;obtain⟨s1,s2,s3⟩:=L.oW hk oX oX oX oX;have hkx:=s2.2.2 oX;obtain⟨i,c',h1,h2,h3,h4,h5,h6,h7,Dn⟩:=oq I hx s1 hkx;have hh:=KA hk oX hc;have oO:¬aW x:=uy oX;have rl:∀sd,¬eV x sd:=Ca oX;rcases FF I hx (fun h=>bj9) rl (s1.lk c hc) hh kE 26 27 with h|⟨s,k,l,sd,Vq,Xt,h3',h4',h5',h6'⟩|⟨s,z,sd,y,q',t1,t2,t3,t4,t5,t6,t7,t8,t9,t10,t11,t12,t13,t14⟩
 ·exact .inl h
 ·right;obtain⟨m2,m3⟩:=M.an1 L hk hp s;refine⟨_,Vq,w.ay g {x with br:=s,ae:=26},ls,?_,I.Pe hx hs Xt h3' h4' h5' (.inr (.inl rfl)) rfl (by rw[h6'];exact(m3 _).2 hh) oO rl rfl rfl rfl rfl rfl rfl m2 m3⟩;unfold eH;simp only[mH hx,bW,eN];rw[aE sX]
 ·right;obtain⟨m2,m3⟩:=M.an2 L hk hp s w.av w.av z (i:Int) ⟨x.k.toNat,oX,h2⟩;have hb:=t2.Kq (x':={x with br:=s,t:=w.av,point:=w.av,bF:=z,fire:=(i:Int),ae:=27}) (b:=y.bk) hx hs t6 t7 t10 t11 t14 t3 t4 t5 t8 (fun h=>aX h t9) (fun _=>rfl) (fun _=>t13) (.inr rfl) rfl (by rw[t12];exact(m3 _).2 hh) oO rl rfl rfl rfl rfl rfl rfl m2 m3 w.av g;refine⟨_,t1,_,iA ls s,?_,hb.1,(show bK w {w with aw:=q'}from⟨rfl,rfl,rfl,rfl,rfl,rfl⟩).trans hb.2⟩;have eE:((({w with aw:=q'}:Wd).ay z {y with point:=w.av,bF:=g,fire:=sd.case}).ay g {x with br:=s,t:=w.av,point:=w.av,bF:=z,ae:=27}).gs[g]?=some {x with br:=s,t:=w.av,point:=w.av,bF:=z,ae:=27}:=by apply di (x:=x);show(w.gs.set z _)[g]?=_;rw[gd _ (dE t6)];exact hx
  have IZ:dU {x with br:=(s:Int),t:=w.av,point:=w.av,bF:=(z:Int),ae:=27}=some (i:Int):=h1;unfold eH;simp only[eE,IZ,bW,eN,dt];rw[cY]
theorem PG(hp:x.ae=25):∃w' fM,uE w g (aP x)=some w'∧Inv w' fM∧bK w w':=by
 have L:=I.loc g x hx;obtain⟨s1,s2,s3⟩:=L.oW hk oX oX oX oX;have kE:=s2.2.2 oX;obtain⟨i,c,h1,h2,h3,h4,h5,h6,h7,Dn⟩:=oq I hx s1 kE;obtain⟨b,hb,gm⟩:=Fs I ⟨h5,h6⟩;obtain⟨hm,r,hr,ok⟩:=gz I ⟨h5,h6⟩
 have r9:∀(W:Wd),Inv W ls→bK w W→W.gs=w.gs→W.ax=w.ax→∀rr:nP,(rr.aJ=1∨rr.aJ=3∧c.cF=true)→∃w' fM,te W g {rr with case:=i}=some w'∧Inv w' fM∧bK w w':=by
  intro W IW KW e1 e2 rr pL;have hxW:W.gs[g]?=some x:=by rw[e1];exact hx
  have hsW:Na W g:=by unfold Na;rw[e2];exact hs
  unfold te;rw[qK hxW];refine⟨_,ls,rfl,?_⟩
  have F:=FY IW hxW hsW hk hp {rr with case:=i} bj2 (.inl ⟨bj2,rfl,sX,c,by simpa using h4,h5,by rw[KW.au];exact h6,fun h=>by
   rcases pL with h'|h'
   ·simp only at h;omega
   ·exact h'.2⟩)
  exact⟨F.1,KW.trans F.2⟩
 have Cf:∀(W:Wd),Inv W ls→bK w W→W.gs=w.gs→W.ax=w.ax→∃w' fM,j3 W g (aP x)=some w'∧Inv w' fM∧bK w w':=by intro W IW KW e1 e2;obtain⟨w',a,b,c⟩:=DD IW (by rw[e1];exact hx) (by unfold Na;rw[e2];exact hs) hk hp;exact⟨w',ls,a,b,KW.trans c⟩
 unfold uE;simp only[hx,h1,h3,bW,eN]
 cases Ar:c.cF with
 |true=>
  simp only[dt];unfold j4;simp only[hb,bW,eN]
  cases b with
  |true=>
   simp only[dt,eN,nW,dF];exact r9 w I (bK.refl w) rfl rfl {aJ:=3} (.inr ⟨rfl,Ar⟩)
  |false=>
   simp only[nW,dF];rcases zq I hx hs hk hp h7 (kk:=2*c.ch-2) (.inl rfl)with ht|⟨w1,ht,w',fM,t1,t2,t3⟩
   ·simp only[ht,eN,nW,dF,aH8,hr,bW];obtain⟨I2,K2⟩:=I.Pf (c.ch-1).toNat (Ring.C2 ok c.v)
    cases eK:(r.put c.v).2 with
    |true=>
     simp only[dt,eN,nW,dF];exact r9 _ I2 K2 rfl rfl {aJ:=1,ok:=true} (.inl rfl)
    |false=>
     simp only[nW,dF,eN];exact Cf _ I2 K2 rfl rfl
   ·simp only[ht,eN,dt];exact⟨w',fM,t1,t2,t3⟩
 |false=>
  simp only[nW,dF];unfold j5;rcases zq I hx hs hk hp h7 (kk:=2*c.ch-1) (.inr rfl)with ht|⟨w1,ht,w',fM,t1,t2,t3⟩
  ·simp only[ht,eN,nW,dF,getRing,hr,bW];obtain⟨I2,K2⟩:=I.Pf (c.ch-1).toNat (Ring.C3 ok)
   cases eK:r.get.2.2 with
   |true=>
    simp only[dt,eN,nW,dF];exact r9 _ I2 K2 rfl rfl {aJ:=1,v:=r.get.2.1,ok:=true} (.inl rfl)
   |false=>
    have ff:idx (w.dZ (c.ch-1).toNat r.get.1).aO (c.ch-1)=some b:=hb;simp only[nW,dF,ff,eN]
    cases b with
    |true=>
     simp only[dt,eN,nW,dF];exact r9 _ I2 K2 rfl rfl {aJ:=1} (.inl rfl)
    |false=>
     simp only[nW,dF,eN];exact Cf _ I2 K2 rfl rfl
  ·simp only[ht,bW,eN,dt];exact⟨w',fM,t1,t2,t3⟩
theorem Mm(hp:x.ae=26):∃w' fM,(rD w g 25 27).bind (eH · g)=some w'∧Inv w' fM∧bK w w':=by
 have L:=I.loc g x hx;obtain⟨s1,s2,s3⟩:=L.oW hk oX oX oX oX;have kE:=s2.2.2 oX;obtain⟨i,c,h1,h2,h3,h4,h5,h6,h7,Dn⟩:=oq I hx s1 kE;have oO:¬aW x:=uy oX;have rl:∀sd,¬eV x sd:=Ca oX;obtain⟨m1,m2,m3⟩:=M.am9 L hk hp;have F:=I.ku hx hs m1 ⟨sX,sX⟩ m2 m3 rfl;rcases Kt I hx (.inr (.inl hp)) oO rl 25 27 oX ⟨F.1,m3⟩with⟨w',fM,t1,t2,t3,t4⟩|⟨s,z,k,l,sd,y,t1,t2,t3,t4,t5,t6,t7,t8,t9,t10,t11,t12,t13⟩
 ·refine⟨w',fM,?_,t2,t3⟩;rw[t1];have eE:w'.gs[g]?=some {x with br:= -1,ae:=25}:=by rw[t4];exact di _ hx
  simp only[eN];unfold eH;simp only[eE,bW,eN];rw[aE sX]
 ·obtain⟨m2,m3⟩:=M.an3 L hk hp w.av w.av z (i:Int) ⟨x.k.toNat,oX,h2⟩;refine⟨_,ls,?_,I.Kq (x':={x with t:=w.av,point:=w.av,bF:=z,fire:=(i:Int),ae:=27}) (b:=true) hx hs t6 t7 t10 t11 t13 t3 t4 t5 t8 (fun _=>rfl) (fun h=>aX t9 h) (fun h=>aX t9 h) (.inr rfl) t2 ((m3 _).2 t12) oO rl rfl rfl rfl rfl rfl rfl m2 m3 w.av g⟩;rw[t1];have eE:((w.ay z {y with point:=w.av,bF:=g,fire:=sd.case,bk:=true}).ay g {x with t:=w.av,point:=w.av,bF:=z,ae:=27}).gs[g]?=some {x with t:=w.av,point:=w.av,bF:=z,ae:=27}:=by apply di (x:=x);show(w.gs.set z _)[g]?=_;rw[gd _ (dE t6)];exact hx
  have IZ:dU {x with t:=w.av,point:=w.av,bF:=(z:Int),ae:=27}=some (i:Int):=h1;simp only[eN];unfold eH;simp only[eE,IZ,bW,eN,dt];rw[cY]
theorem DE(hp:x.ae=27):∃w' fM,jJ w g (aP x)=some w'∧Inv w' fM∧bK w w':=by
 have L:=I.loc g x hx;obtain⟨s1,s2,s3⟩:=L.oW hk oX oX oX oX;have kE:=s2.2.2 oX;obtain⟨i,c,h1,h2,h3,h4,h5,h6,h7,Dn⟩:=oq I hx s1 kE;have oO:¬aW x:=uy oX;obtain⟨s,ON⟩:=pz (L.br (.inl (.inr hp)));obtain⟨z,sd,y,q',d1,d2,d3,d4,d5,d6,F⟩:=I.Pg hx hs (.inr hp) oO (Ca oX) ON;have hn:nat? x.br=some s:=bq3
 have KB:x.fire=(i:Int):=by
  obtain⟨_,⟨j,hj,EL⟩,_⟩:=L.hand hp;have:j=x.k.toNat:=oX
  rw[this,h2]at EL;exact(mx EL).symm
 have iw:∀v,cV (aP x) w.au.length {x with res:={aJ:=1,case:=i,ok:=true,v:=v}}:=fun v=> .inl ⟨.inl rfl,KB,sX,c,by simpa using h4,h5,h6,fun h=>bj5⟩
 have V5:=I.sj hx;unfold jJ;simp only[hx,h1,hn,h3,d1,bW,eN]
 cases Ar:c.cF with
 |true=>
  simp only[dt,d2,eN];obtain⟨m1,m2,m3⟩:=M.c27 L hk hp {aJ:=1,case:=i,ok:=true,v:=0} rfl (iw 0);have F:=F _ (.inl rfl) {sd with v:=c.v,done:=true} ⟨rfl,rfl,rfl,rfl,rfl⟩ {x with res:={aJ:=1,case:=i,ok:=true,v:=0},br:= -1,k:=x.aq.length,ae:=30} (.inr (.inr ⟨rfl,rfl⟩)) (fun h=>oO (m1.wt.1 h)) rfl rfl rfl rfl rfl rfl m2 m3;rw[sh (w:=({w with aw:=q'}:Wd).cJ s {sd with v:=c.v}) (z:=z) (y:=y) (sd:={sd with v:=c.v}) hx (qN _ d2) d3 d5 d4 oX];simp only[eN];rw[qK (x:={x with wakes:=x.wakes++[(z:Int)],br:= -1}) (di (x:=x) _ bl9)];refine⟨_,iA ls s,rfl,?_⟩;rw[cY];have e:((({w with aw:=q'}:Wd).cJ s {sd with v:=c.v}).cJ s {sd with v:=c.v,done:=true})=({w with aw:=q'}:Wd).cJ s {sd with v:=c.v,done:=true}:=by unfold Wd.cJ;simp only[my]
  rw[e];exact F
 |false=>
  simp only[nW,dF];obtain⟨hm,r,hr,ok⟩:=gz I ⟨h5,h6⟩
  have hR:∃w2 v,ik ({w with aw:=q'}:Wd) c.ch s=some (w2,v)∧(w2=({w with aw:=q'}:Wd)∨∃c r,r.Ok∧w2=({w with aw:=q'}:Wd).dZ c r):=by
   have Ht:cZ ({w with aw:=q'}:Wd) c.ch=true:=hm;have hT:kq ({w with aw:=q'}:Wd) c.ch=some ((c.ch-1).toNat,r):=hr;exact ba0
  obtain⟨W,v,jk,nt⟩:=hR;obtain⟨m1,m2,m3⟩:=M.c27 L hk hp {aJ:=1,case:=i,ok:=true,v:=v} rfl (iw v);have F:=F W nt {sd with done:=true} ⟨rfl,rfl,rfl,rfl,rfl⟩ {x with res:={aJ:=1,case:=i,ok:=true,v:=v},br:= -1,k:=x.aq.length,ae:=30} (.inr (.inr ⟨rfl,rfl⟩)) (fun h=>oO (m1.wt.1 h)) rfl rfl rfl rfl rfl rfl m2 m3;have zd:W.gs=w.gs∧W.ah=w.ah:=by rcases nt with rfl|⟨c,r,_,rfl⟩<;>exact⟨rfl,rfl⟩
  simp only[jk,eN];rw[sh (w:=W) (z:=z) (y:=y) (sd:=sd) (x:=x) (by rw[zd.1];exact hx) (by rw[zd.2];exact d2) d3 (by rw[zd.1];exact d5) d4 oX];exact bv2
end
theorem wv(hp:x.ae=0∨x.ae=1∨x.ae=4∨x.ae=18∨x.ae=19∨x.ae=20∨x.ae=24∧x.k=0)(c:Int):¬aL x c:=by
 unfold aL;split
 ·have e:bC x=0:=by
   unfold bC;split
   ·rename_i h;have:x.k=0:=by omega
    simp[this]
   ·rw[aE oX]
  rw[e];simp
 ·unfold cH;omega
structure nC(x y:bI):Prop where
 ops:y.ops=x.ops
 at_:y.at_=x.at_
 aN:y.aN= -1
 bY:y.bY= -1
 br:y.br= -1
 bA:y.bA=[]
 wakes:y.wakes=[]
 fire:(aP x).ai≠9∨y.ae=24→y.fire= -1∧y.res.case= -1∧y.bk=false
 oW:y.ae=24→y.point=0∧y.res.aJ=0∧y.k=0
theorem nC.loc{C:Nat}(F:nC x y)(L:Loc C x)(ks:x.at_<x.ops.length)(kM:y.ae=1∨y.ae=4∨y.ae=18∨y.ae=19∨y.ae=20∨y.ae=24)(hk:bG (aP x).ai y.ae=true)(Kx:y.ae=1∨y.ae=4→1≤(aP x).ch∧(aP x).ch≤C)(nL:y.ae=24→gU C y)(iw:(aP x).ai=9→y.ae=18→cV (aP x) C y):Loc C y:=by
 have eg:aP y=aP x:=oM F.ops F.at_
 have oz:(aP x).ai=9→y.ae=18∨y.ae=19∨y.ae=24:=by
  intro h9;rw[h9]at hk;rcases kM with h|h|h|h|h|h
  ·rw[h]at hk;exact aX hk dX
  ·rw[h]at hk;exact aX hk dX
  ·omega
  ·omega
  ·rw[h]at hk;exact aX hk dX
  ·omega
 have oN:¬aW y:=uy oX;refine⟨by rw[F.ops,F.at_];exact L.JY,by rw[F.ops];exact L.ops,fun _=>by rw[F.ops,F.at_];exact ks,fun _=>bs2,oX,fun h=>oX,fun h1 h2 h3 h4 h5=>?_,fun h1 h2 h3 h4 h5=>?_,fun h=>oX,fun _ _ _ _ _=>F.wakes,fun _ h=>oX,fun _=>F.bY,fun _=>F.bA,fun _ _ s hs=>(by rw[F.bA]at hs;cases hs),fun h=>?_,⟨by rw[F.aN];omega,fun _=>F.aN⟩,fun h=>F.fire (.inl (by rw[←eg];exact h)),fun h1 h2=>?_,fun h=>oX,fun _ h=>oX,fun _=>⟨fun h=>aX h oN,fun h=>oX⟩,fun h=>oX,fun h1 h2=>?_,by rw[F.br];omega⟩
 ·rw[eg]at h1 ⊢;rcases kM with h|h|h|h|h|h
  ·exact Kx (.inl h)
  ·exact Kx (.inr h)
  ·exact aX h h3
  ·exact aX h h4
  ·exact aX h h5
  ·rw[h]at hk;have:(aP x).ai=9:=by simpa[bG]using hk
   exact aX this h1
 ·rw[eg]at h1;have XN:y.ae=24:=by have:=oz h1;omega
  have S:=nL XN;obtain⟨f1,f2,f3⟩:=F.oW XN;refine⟨S,⟨fun h=>?_,fun h=>oX,fun h=>oX⟩,⟨fun _=>F.bA,fun h=>aX (.inl XN) h,fun i s h=>(by rw[F.bA]at h;simp at h),fun h=>oX,fun h=>oX,fun h=>oX,fun h=>oX⟩⟩;have:=pd S.Ei;omega
 ·unfold aT bm at h;omega
 ·have XN:y.ae=24:=by omega
  obtain⟨f1,f2,f3⟩:=F.oW XN;obtain⟨f4,f5,f6⟩:=F.fire (.inr XN);exact⟨f6,f1,f4,f5,f2⟩
 ·rw[eg]at h1 ⊢;exact iw h1 oX
section
variable(I:Inv w ls)(hx:w.gs[g]?=some x)(hs:Na w g)
include I hx hs
theorem Inv.IG(hp:x.ae=0)(ks:x.at_<x.ops.length)(F:nC x y)(kM:y.ae=1∨y.ae=4∨y.ae=18∨y.ae=20∨y.ae=24)(hk:bG (aP x).ai y.ae=true)(Kx:y.ae=1∨y.ae=4→1≤(aP x).ch∧(aP x).ch≤w.au.length)(nL:y.ae=24→gU w.au.length y)(iw:(aP x).ai=9→y.ae=18→cV (aP x) w.au.length y):Inv (w.ay g y) ls∧bK w (w.ay g y):=by
 have L:=I.loc g x hx;have B:=L.begin hp;have hL:=F.loc L ks oX hk Kx nL iw
 have hh:∀c,aL y c↔aL x c:=fun c=>⟨fun h=>aX h (wv (by
  rcases kM with h|h|h|h|h
  ·exact .inr (.inl h)
  ·exact .inr (.inr (.inl h))
  ·exact .inr (.inr (.inr (.inl h)))
  ·exact .inr (.inr (.inr (.inr (.inr (.inl h)))))
  ·exact .inr (.inr (.inr (.inr (.inr (.inr ⟨h,(F.oW h).2.2⟩)))))) c),fun h=>aX h (wv (.inl hp) c)⟩
 exact I.ku hx hs (wu (oM F.ops F.at_) (uy oX) (uy oX) (Ca oX) (fun h=>bk2) (fun h=>bj9) (F.bY.trans B.bY.symm) (F.bA.trans B.bA.symm) (F.wakes.trans B.wakes.symm) (F.aN.trans B.aN.symm)) ⟨fun h=>oX,oX⟩ hL hh F.ops
theorem Inv.Pm(hp:x.ae=0)(ks:x.at_<x.ops.length)(F:nC x y)(kM:y.ae=19)(hk:bG (aP x).ai y.ae=true):Inv ({w.ay g y with ax:=(tD w.ax g).1}:Wd) ls∧bK w ({w.ay g y with ax:=(tD w.ax g).1}:Wd):=by
 have L:=I.loc g x hx;have B:=L.begin hp;have hL:=F.loc L ks oX hk (fun h=>oX) (fun h=>oX) (fun _ h=>oX);obtain⟨t,hb⟩:=hs;have Em:¬aW x:=uy oX;obtain⟨a1,a2,a3,a4,a5,a6,a7⟩:=I.st g x 0 t hx hb
 have ht:t=false:=by
  cases t with
  |false=>rfl
  |true=>exact aX (a3 rfl).1 Em
 subst ht;have M:lH x y:=wu (oM F.ops F.at_) Em (uy oX) (Ca oX) (fun h=>bk2) (fun h=>bj9) (F.bY.trans B.bY.symm) (F.bA.trans B.bA.symm) (F.wakes.trans B.wakes.symm) (F.aN.trans B.aN.symm);have hh:∀c,aL y c↔aL x c:=fun c=>⟨fun h=>aX h (wv oX c),fun h=>aX h (wv (.inl hp) c)⟩
 have B9:(tD w.ax g).1=w.ax.set g (1,false):=by rw[yb hb];rfl
 refine⟨I.OZ hx M hL hh rfl (by simp only;rw[B9];simp) rfl rfl rfl rfl rfl rfl ?_ ?_,dW hx F.ops,rfl,rfl,rfl,rfl,rfl⟩
 ·simp only;rw[B9];intro j u s t hu ff;rcases SQ hb ff with⟨rfl,e⟩|⟨cM,ff⟩
  ·cases e;rcases cX hx hu with⟨_,rfl⟩|⟨h,_⟩
   ·exact⟨oX,oX,fun h=>bk0,fun _=> .inr kM,fun _=>rfl,fun h=>oX,fun h=>oX⟩
   ·exact aX rfl h
  ·rcases cX hx hu with⟨rfl,_⟩|⟨_,hu⟩
   ·exact aX rfl cM
   ·exact I.st j u s t hu ff
 ·simp only;rw[B9];intro j u z hu hz
  have xq:∃(j0:Nat) (y0:bI),w.gs[j0]?=some y0∧z∈y0.wakes:=by
   rcases cX hx hu with⟨h1,h2⟩|⟨cM,hu⟩
   ·rw[h2,F.wakes]at hz;cases hz
   ·exact⟨j,u,hu,hz⟩
  obtain⟨j0,y0,J2,fV⟩:=xq;obtain⟨i,v,s,h0,h1,h2,h3,h4,h5⟩:=I.jn j0 y0 z J2 fV;have XM:i≠g:=by rintro rfl;rw[hx]at h1;cases h1;exact Em h2
  exact⟨i,v,s,h0,by show(w.gs.set g y)[i]?=_;rw[gd _ XM];exact h1,h2,h3,by rw[bne _ XM];exact h4,h5⟩
theorem Inv.ap8(hp:x.ae=0)(ks:(x.ops.length:Int)≤x.at_):Inv ({w with ax:=(Av w.ax g).1}:Wd) ls∧bK w ({w with ax:=(Av w.ax g).1}:Wd):=by
 have L:=I.loc g x hx;obtain⟨t,hb⟩:=hs;have Em:¬aW x:=uy oX;have he:(Av w.ax g).1=w.ax.set g (2,false):=by unfold Av;rw[(qm hb).1];simp
 rw[he];refine⟨⟨I.n8,by simp only[kI];exact I.ax,I.c8,I.aO,I.aq,I.au,I.JZ,I.aS,I.bM,I.Eg,I.q,I.loc,I.lock,I.cK,I.bY,I.bA,I.EJ,I.look,I.claim,I.pE,I.served,?_,?_,I.pg,I.rf⟩,rfl,rfl,rfl,rfl,rfl,rfl⟩
 ·intro j u s t' hu ff;rcases SQ hb ff with⟨rfl,e⟩|⟨cM,ff⟩
  ·cases e;have Nw:w.gs[j]?=some u:=hu;rw[hx]at Nw;cases Nw;have:=L.JY;exact⟨oX,oX,fun h=>bk0,fun h=>oX,fun h=>oX,fun h=>oX,fun _=>⟨hp,oX⟩⟩
  ·exact I.st j u s t' hu ff
 ·intro j u z hu hz;obtain⟨i,v,s,h0,h1,h2,h3,h4,h5⟩:=I.jn j u z hu hz;have XM:i≠g:=by rintro rfl;rw[hx]at h1;cases h1;exact Em h2
  exact⟨i,v,s,h0,h1,h2,h3,(bne _ XM).trans h4,h5⟩
theorem Inv.SW(hp:x.ae=18)(F:y={bu {x with at_:=x.at_+1}with ae:=0})(d:List Ex):Inv (({w with done:=d}:Wd).ay g y) ls:=by
 have L:=I.loc g x hx;have Em:¬aW x:=uy oX;have ks:=L.Uy oX;have h0:=L.JY;have J0:x.wakes=[]:=L.uP oX oX oX oX oX;have oE:=L.aN.2 Em;subst F;have oN:¬aW ({bu {x with at_:=x.at_+1}with ae:=0}:bI):=uy sX;have hL:Loc w.au.length {bu {x with at_:=x.at_+1}with ae:=0}:=by refine⟨⟨by simp only[bu];omega,by simp only[bu];omega,h0.2.2⟩,L.ops,fun h=>aX rfl h,fun h=>aX rfl h,sX,fun _=>⟨rfl,rfl,rfl,rfl,rfl,rfl,rfl,rfl,rfl,rfl⟩,fun _ h=>aX rfl h,fun _ h=>aX rfl h,fun h=>bj5,fun _ _ _ _ _=>rfl,fun _ h=>bj5,fun _=>rfl,fun _=>rfl,fun _ h=>bj5,fun h=>?_,⟨by simp[bu],fun _=>rfl⟩,fun _=>⟨rfl,rfl,rfl⟩,fun _ h=>bj5,fun h=>bj5,fun _ h=>bj5,fun _=>⟨fun h=>aX h oN,fun h=>bj5⟩,fun h=>bj5,fun _ h=>bj5,by simp[bu]⟩;unfold aT bm at h;simp at h
 have hh:∀c,aL ({bu {x with at_:=x.at_+1}with ae:=0}:bI) c↔aL x c:=fun c=>⟨fun h=>aX h (wv (.inl rfl) c),fun h=>aX h (wv oX c)⟩
 have eE:({w with done:=d}:Wd).gs[g]?=some x:=hx;have I0:Inv ({w with done:=d}:Wd) ls:=I.same rfl rfl rfl rfl rfl rfl rfl rfl
 exact I0.mn eE hL (fun k l s sd _ _ _ _ a c=>aX c (Ca oX sd)) (fun s h=>by simp only[bu]at h;omega) (fun i s h=>by simp[bu]at h) (fun j u s sd _ _ _ _ _ _ a b _ _ _=>aX b Em) (fun h=>bl7) (fun h=>bk9)
  (fun s h=>by simp only[bu]at h;omega) List.nodup_nil (fun j u z _ _ _ h=>bk0) rfl rfl rfl I0.au rfl rfl (I0.lock.same eE hh) rfl rfl rfl (I0.st.same eE hs (fun h=>aX h Em) oE.symm sX sX) (I0.jn.same eE (fun h=>aX h Em) oE.symm J0.symm sX)
end
theorem DI(h0:0≤x.at_)(h1:x.at_<x.ops.length):aP x∈x.ops:=by
 unfold aP idx;rw[aF h0];obtain⟨o,ho⟩:∃o,x.ops[x.at_.toNat]?=some o:=⟨_,fv oX⟩;rw[ho];exact lf ho
theorem KC(I:Inv w ls)(hx:w.gs[g]?=some x)(h1:x.at_<x.ops.length):mf w g=some (aP x)∧Vz (aP x):=by
 have L:=I.loc g x hx;have hR:=L.ops _ (DI L.JY.1 h1);refine⟨?_,hR⟩;unfold mf;rw[qd hx];have:=hR.ch;have:=hR.cl;rw[aF ⟨bl3,oX⟩]
theorem zu{w:Wd}{c:Int}:cZ w c=true↔1≤c∧c≤w.au.length:=by unfold cZ;simp
theorem nC.WH(x:bI)(p:Int)(st:Int)(r:nP)(c:Int)(hr:r.case= -1)(hp:p≠24):nC x {bu x with call:=c,res:=r,point:=st,ae:=p}:=
 ⟨rfl,rfl,rfl,rfl,rfl,rfl,rfl,fun _=>⟨rfl,hr,rfl⟩,fun h=>aX h hp⟩
section
variable(I:Inv w ls)(hx:w.gs[g]?=some x)(hs:Na w g)
include I hx hs
theorem PI(hp:x.ae=0)(ks:(x.ops.length:Int)≤x.at_):∃w',jT w g=some w'∧Inv w' ls∧bK w w':=by
 refine⟨_,?_,I.ap8 hx hs hp ks⟩;unfold jT;simp only[hx,bW,eN,ks,dt]
theorem I8(hp:x.ae=0)(ks:x.at_<x.ops.length)(hk:(aP x).ai≠9):∃w',jT w g=some w'∧Inv w' ls∧bK w w':=by
 obtain⟨ho,hR⟩:=KC I hx ks;have kE:=hR.k;have hxC:(w.ay g {bu x with call:=w.av}).gs[g]?=some {bu x with call:=w.av}:=di (x:=x) _ hx
 have bt:∀(y:bI),nC x y→(y.ae=1∨y.ae=4∨y.ae=18∨y.ae=20)→bG (aP x).ai y.ae=true→(y.ae=1∨y.ae=4→cZ w (aP x).ch=true)→Inv (w.ay g y) ls∧bK w (w.ay g y):=fun y F h1 h2 h3=>
  I.IG hx hs hp ks F oX h2 (fun h=>zu.1 (h3 h)) (fun h=>oX) (fun h=>aX h hk)
 unfold jT cD Nc never cD fL;simp only[hx,bW,eN,ho,aE (by omega:¬(x.ops.length:Int)≤x.at_),hxC,km];by_cases h1:(aP x).ai=1∨(aP x).ai=7∨(aP x).ai=8
 ·rw[aF h1];refine⟨_,rfl,?_⟩;rw[cY];exact bt _ (nC.WH x 20 0 {case:= -1} w.av rfl oX) sX (by rcases h1 with h|h|h<;>rw[h]<;>simp[bG]) (fun h=>bj5)
 ·rw[aE h1];by_cases h2:(aP x).ai=2∨(aP x).ai=3
  ·rw[aF h2]
   cases hm:cZ w (aP x).ch with
   |true=>
    simp only[dt];refine⟨_,rfl,?_⟩;rw[cY];exact bt _ (nC.WH x 4 0 {case:= -1} w.av rfl oX) sX (by rcases h2 with h|h<;>rw[h]<;>simp[bG]) (fun _=>hm)
   |false=>
    simp only[nW,dF];refine⟨_,rfl,?_⟩;have Z:=I.Pm hx hs hp ks (nC.WH x 19 0 {case:= -1} w.av rfl oX) rfl (by rcases h2 with h|h<;>rw[h]<;>simp[bG]);simp only[Wd.ay,my]at Z ⊢;exact Z
  ·rw[aE h2];by_cases h3:(aP x).ai=4∨(aP x).ai=5
   ·rw[aF h3]
    cases hm:cZ w (aP x).ch with
    |true=>
     simp only[dt];refine⟨_,rfl,?_⟩;rw[cY];exact bt _ (nC.WH x 1 0 {case:= -1} w.av rfl oX) sX (by rcases h3 with h|h<;>rw[h]<;>simp[bG]) (fun _=>hm)
    |false=>
     simp only[nW,dF];refine⟨_,rfl,?_⟩;rw[cY];exact bt _ (nC.WH x 18 w.av {aJ:=2,case:= -1} w.av rfl oX) sX (by rcases h3 with h|h<;>rw[h]<;>simp[bG]) (fun h=>bj5)
   ·rw[aE h3];have h6:(aP x).ai=6:=oX;rw[aF h6]
    cases hm:cZ w (aP x).ch with
    |true=>
     simp only[dt];refine⟨_,rfl,?_⟩;rw[cY];exact bt _ (nC.WH x 4 0 {case:= -1} w.av rfl oX) sX (by rw[h6];simp[bG]) (fun _=>hm)
    |false=>
     simp only[nW,dF];refine⟨_,rfl,?_⟩;rw[cY];exact bt _ (nC.WH x 18 w.av {aJ:=5,case:= -1} w.av rfl oX) sX (by rw[h6];simp[bG]) (fun h=>bj5)
theorem Tb(hp:x.ae=20)(hk:(aP x).ai≠1):∃w',KZ w g=some w'∧Inv w' ls∧bK w w':=by
 have L:=I.loc g x hx;obtain⟨ho,hR⟩:=pj I hx oX;have aa4:=L.kp oX;rw[hp]at aa4
 have h78:(aP x).ai=1∨(aP x).ai=7∨(aP x).ai=8:=by
  have:((aP x).ai=1∨(aP x).ai=7)∨(aP x).ai=8:=by simpa[bG]using aa4
  omega
 have oz:(aP x).ai≠9:=oX
 obtain⟨n,hn⟩:∃n,wQ w (aP x)=some n:=by
  unfold wQ
  cases hm:cZ w (aP x).ch with
  |false=>exact⟨_,rfl⟩
  |true=>
   obtain⟨_,r,hr,_⟩:=gz I (zu.1 hm);simp only[aH6,dF,hr];exact⟨_,rfl⟩
 unfold KZ;simp only[ho,hx,bW,eN,aE hk,hn];rw[aF oX];refine⟨_,rfl,?_⟩;obtain⟨m1,m2,m3⟩:=M.o20 L oz hp w.av {aJ:=1,case:= -1,ok:=true,n:=n} rfl;exact I.ku hx hs m1 ⟨sX,sX⟩ m2 m3 rfl
theorem F0(hp:x.ae=18)(hd:w.done.length<1000000):∃w',mL w g=some w'∧Inv w' ls∧w'.gs.map (·.ops)=w.gs.map (·.ops)∧w'.av=w.av∧w'.list=w.list∧w'.drawn=w.drawn∧w'.done=w.done++[qu x g w.av]∧w'.au.length=w.au.length:=by
 have L:=I.loc g x hx;have:=L.JY;unfold mL;simp only[hx,bW,eN];have eK:kJ x.at_=true:=bl3
 rw[eK,aE dX,aE oX];refine⟨_,rfl,I.SW hx hs hp rfl _,?_,rfl,rfl,rfl,rfl,rfl⟩;exact dW hx rfl
end
end
theorem F3{α β:Type}{f:α→Option β}{h:α→β}:∀l:List α,(∀a∈l,f a=some (h a))→l.mapM f=some (l.map h)
 | [],_=>sX
 |a::l,H=>by rw[List.mapM_cons,H a sX,F3 l (fun b hb=>H b (by simp[hb]))];rfl
theorem sr(l:List Int):∀(n i:Nat) (d:Int),(gy l d i n).1.length=n
 |0,i,d=>rfl
 |n+1,i,d=>by simp only[gy,sV,sr l n]
theorem Cg(l:List Int):∀(n i:Nat) (d:Int),0≤d→d≤(gy l d i n).2∧((gy l d i n).2≤d∨(gy l d i n).2≤l.length)
 |0,i,d,_=>by simp[gy]
 |n+1,i,d,h0=>by
  have h1:d≤(gw l d ((i:Int)+1)).2∧((gw l d ((i:Int)+1)).2≤d∨(gw l d ((i:Int)+1)).2≤l.length):=by unfold gw;split<;>simp only<;>omega
  have h2:=Cg l n (i+1) (gw l d ((i:Int)+1)).2 oX;simp only[gy];omega
section
variable{w w' w2:Wd}{ls:List (List Nat)}{g z s:Nat}{x x' xA y:bI}{sd:gn}{o:cu}
theorem Mo(hR:Vz o)(ds:List Int)(hl:ds.length=o.cases.length):∃cs,kr w o ds=some cs∧(∀p∈cs,0≤p.1∧∃c,o.cases[p.1.toNat]?=some c∧p.2=c.ch∧1≤c.ch∧c.ch≤w.au.length)∧(cs.map (·.1)).Nodup∧cs.length≤6:=by
 have hP:=qO ds ds.length;have kL:∀i∈kB ds ds.length,0≤i∧∃c,o.cases[i.toNat]?=some c∧iF o i=some c:=fun i hi=>by obtain⟨j,hj,rfl⟩:=List.mem_map.1 (hP.mem_iff.1 hi);have hj:=List.mem_range.1 hj;obtain⟨c,hc⟩:∃c,o.cases[j]?=some c:=⟨_,fv oX⟩;refine⟨oX,c,by simpa using hc,?_⟩;have:=hR.cs c (lf hc);unfold iF idx;rw[aF oX];simp only[oU,hc,bW,eN];rw[aF bl3]
 let H:Int→Int×Int:=fun i=>(i,((o.cases[i.toNat]?).map (·.ch)).getD 0)
 have hm:(kB ds ds.length).mapM (fun i=>(iF o i).map fun c=>(i,c.ch))=some ((kB ds ds.length).map H):=by
  refine F3 _ fun i hi=>?_
  obtain⟨_,c,h1,h2⟩:=kL i hi;simp[h2,H,h1]
 refine⟨((kB ds ds.length).map H).filter fun p=>cZ w p.2,?_,fun p hp=>?_,?_,?_⟩
 ·unfold kr;rw[hm];rfl
 ·obtain⟨h1,h2⟩:=List.mem_filter.1 hp;obtain⟨i,hi,rfl⟩:=List.mem_map.1 h1;obtain⟨h0,c,h3,h4⟩:=kL i hi;have e:(H i).2=c.ch:=by simp[H,h3]
  have Xt:=zu.1 h2;rw[e]at Xt;exact⟨h0,c,h3,e,Xt⟩
 ·have hs:((((kB ds ds.length).map H).filter fun p=>cZ w p.2).map (·.1)).Sublist (kB ds ds.length):=by
   have h1:=(List.filter_sublist (l:=(kB ds ds.length).map H) (p:=fun p=>cZ w p.2)).map (·.1);rw[List.map_map]at h1
   rwa [show((kB ds ds.length).map ((fun p:Int×Int=>p.1) ∘ H))=kB ds ds.length from by
    conv=>rhs;rw[←List.map_id (kB ds ds.length)]
    exact List.map_congr_left fun a _=>rfl]at h1
  exact hs.nodup (FZ ds _)
 ·refine jm (List.length_filter_le _ _) ?_;rw[ko,hP.length_eq,ko,List.length_range,hl];exact hR.cl
theorem PJ{C:Nat}{y:bI}{cs:List (Int×Int)}(h1:∀p∈cs,0≤p.1∧∃c,(aP y).cases[p.1.toNat]?=some c∧p.2=c.ch∧1≤c.ch∧c.ch≤C)(h2:(cs.map (·.1)).Nodup)(h3:cs.length≤6)(h4:cs≠[])(e1:y.aH=cs.map (·.1))(e2:y.aq=kf (cs.map (·.2))):gU C y:=by
 obtain⟨a,b⟩:=DH (cs.map (·.2));have kL:∀p∈cs,p.2∈y.aq:=fun p hp=>by obtain⟨_,c,_,e,h,_⟩:=h1 p hp;rw[e2];exact(b _).2 ⟨List.mem_map.2 ⟨p,hp,rfl⟩,oX⟩
 refine⟨by rw[e1];simpa using h4,fun i hi=>?_,by rw[e1];exact h2,by rw[e1];simpa using h3,fun l hl=>?_,by rw[e2];exact a,?_⟩
 ·rw[e1]at hi;obtain⟨p,hp,rfl⟩:=List.mem_map.1 hi;obtain⟨h0,c,hc,e,h5,h6⟩:=h1 p hp;exact⟨h0,c,hc,h5,h6,e▸kL p hp⟩
 ·rw[e2]at hl;obtain⟨p,hp,rfl⟩:=List.mem_map.1 ((b l).1 hl).1;obtain⟨h0,c,hc,e,h5,h6⟩:=h1 p hp;rw[e];exact⟨h5,h6⟩
 ·obtain⟨p,cs',rfl⟩:=List.exists_cons_of_ne_nil h4;exact List.ne_nil_of_mem (kL p sX)
structure wE(w w':Wd):Prop where
 ops:w'.gs.map (·.ops)=w.gs.map (·.ops)
 av:w'.av=w.av
 list:w'.list=w.list
 drawn:w.drawn≤w'.drawn∧(w'.drawn≤w.drawn∨w'.drawn≤w.list.length)
 done:w'.done=w.done
 au:w.au.length≤w'.au.length
theorem I9(I:Inv w ls)(hx:w.gs[g]?=some x)(hs:Na w g)(hp:x.ae=0)(ks:x.at_<x.ops.length)(hk:(aP x).ai=9)(hd:0≤w.drawn)(Rp:kJ w.drawn=true):∃w',jT w g=some w'∧Inv w' ls∧wE w w':=by
 obtain⟨ho,hR⟩:=KC I hx ks;have hxC:(w.ay g {bu x with call:=w.av}).gs[g]?=some {bu x with call:=w.av}:=di (x:=x) _ hx;obtain⟨cs,fa,c1,c2,c3⟩:=Mo (w:=w.ay g {bu x with call:=w.av}) hR (gy w.list w.drawn 0 (aP x).cases.length).1 (sr _ _ _ _);have Et:=Cg w.list (aP x).cases.length 0 w.drawn hd;have gm:=hR.cl;have e:jT w g=gM (w.ay g {bu x with call:=w.av}) g (aP x):=bq7
 rw[e];unfold gM;have hdn:(w.ay g {bu x with call:=w.av}).drawn=w.drawn:=rfl;have hli:(w.ay g {bu x with call:=w.av}).list=w.list:=rfl;rw[hdn,hli,aE (by rw[Rp];simp;omega)];simp only[fa,hxC,bW,eN];have PK:∀y:bI,(w.gs.set g y)[g]?=some y:=fun y=>di (x:=x) y hx
 by_cases h:cs≠[]
 ·rw[aF h];simp only[cD,fL,Wd.ay,my,PK,km];refine⟨_,rfl,?_⟩;have F:nC x {bu x with call:=w.av,aH:=cs.map (·.1),aq:=kf (cs.map (·.2)),ae:=24}:=⟨rfl,rfl,rfl,rfl,rfl,rfl,rfl,fun _=>⟨rfl,rfl,rfl⟩,fun _=>⟨rfl,rfl,rfl⟩⟩;obtain⟨J,K⟩:=I.IG hx hs hp ks F sX (by rw[hk];simp[bG]) (fun h=>bj5) (fun _=>PJ c1 c2 c3 h rfl rfl) (fun _ h=>bj5);exact aY4
 ·rw[aE h]
  cases XQ:(aP x).dG with
  |true=>
   simp only[dt];simp only[Nc,fL,Wd.ay,my,PK,km];refine⟨_,rfl,?_⟩;have F:nC x {bu x with call:=w.av,aH:=cs.map (·.1),aq:=kf (cs.map (·.2)),res:={aJ:=2,case:= -1},point:=w.av,ae:=18}:=⟨rfl,rfl,rfl,rfl,rfl,rfl,rfl,fun _=>⟨rfl,rfl,rfl⟩,fun h=>bj5⟩;obtain⟨J,K⟩:=I.IG hx hs hp ks F sX (by rw[hk];simp[bG]) (fun h=>bj5) (fun h=>bj5) (fun _ _=> .inr (.inl ⟨rfl,XQ,rfl⟩));exact aY4
  |false=>
   simp only[nW,dF];simp only[never,cD,fL,Wd.ay,my,PK,km];refine⟨_,rfl,?_⟩;have F:nC x {bu x with call:=w.av,aH:=cs.map (·.1),aq:=kf (cs.map (·.2)),ae:=19}:=⟨rfl,rfl,rfl,rfl,rfl,rfl,rfl,fun _=>⟨rfl,rfl,rfl⟩,fun h=>bj5⟩;obtain⟨J,K⟩:=I.Pm hx hs hp ks F rfl (by rw[hk];simp[bG]);exact aY4
end
section
variable{w w' w2:Wd}{ls:List (List Nat)}{g z s C:Nat}{x x' xA y:bI}{sd:gn}{o:cu}
theorem gU.more(S:gU C x):gU (C+1) x:=
 ⟨S.ne,fun i hi=>by obtain⟨h0,c,h1,h2,h3,h4⟩:=S.ord i hi;exact⟨h0,c,h1,h2,oX,h4⟩,S.nd,S.len,fun l hl=>by have:=S.lk l hl;omega,S.BD,S.Ei⟩
theorem cV.more(h:cV o C x):cV o (C+1) x:=by
 unfold cV at h ⊢;rcases h with⟨h1,h2,h3,c,h4,h5,h6,h7⟩|h
 ·exact .inl ⟨h1,h2,h3,c,h4,h5,oX,h7⟩
 ·exact .inr h
theorem Loc.more(L:Loc C x):Loc (C+1) x:=
 {L with
  cZ:=fun h1 h2 h3 h4 h5=>by have:=L.cZ h1 h2 h3 h4 h5;omega
  oW:=fun h1 h2 h3 h4 h5=>by obtain⟨a,b,c⟩:=L.oW h1 h2 h3 h4 h5;exact⟨a.more,b,c⟩
  res:=fun h1 h2=>(L.res h1 h2).more}
theorem Tc(L:Loc C x){c:Int}(h:aL x c):1≤c∧c≤C:=by
 unfold aL at h;split at h
 ·rename_i hk;have h0:bC x≠0:=by intro e;rw[e]at h;simp at h
  have hp:x.ae≠0∧x.ae≠17∧x.ae≠18∧x.ae≠19:=by
   unfold bC at h0;split at h0
   ·omega
   ·split at h0
    ·omega
    ·exact aX rfl h0
  obtain⟨a,_,_⟩:=L.oW hk hp.1 hp.2.1 hp.2.2.1 hp.2.2.2;exact a.lk c (List.mem_of_mem_take h)
 ·rename_i hk;unfold cH at h;rw[h.2];exact L.cZ hk oX oX oX oX
theorem Inv.grow(I:Inv w ls)(h8:w.au.length<8){r:Ring}(hr:r.Ok)(b:Bool):Inv ({w with au:=w.au++[r],aO:=w.aO++[b],aq:=w.aq++[-1]}:Wd) ls:=by
 refine⟨I.n8,I.ax,bi8,by simp[I.aO],by simp[I.aq],fun r' h=>?_,I.JZ,I.aS,I.bM,I.Eg,I.q,fun g x hx=>by simp only[py,sV,List.length_nil];exact(I.loc g x hx).more,?_,I.cK,I.bY,I.bA,I.EJ,I.look,I.claim,I.pE,I.served,I.st,I.jn,I.pg,I.rf⟩
 ·rcases List.mem_append.1 h with h|h
  ·exact I.au r' h
  ·rw[List.mem_singleton.1 h];exact hr
 ·intro c h hc;by_cases dD:c<w.aq.length
  ·rw[Ev dD]at hc;exact I.lock c h hc
  ·rw[Ew oX]at hc
   have Dj:c-w.aq.length=0:=by
    rcases Nat.eq_zero_or_pos (c-w.aq.length)with h0|h0
    ·exact h0
    ·rw[rq bi8]at hc;cases hc
   rw[Dj]at hc;simp at hc;subst hc;refine⟨oX,oX,fun g x hx=>⟨fun hh=>?_,fun e=>oX⟩⟩;have:=Tc (I.loc g x hx) hh;have:=I.aq;omega
theorem Td(I:Inv w ls)(hx:w.gs[g]?=some x)(hs:Na w g)(hp:x.ae=20)(hk:(aP x).ai=1):∃w',KZ w g=some w'∧Inv w' ls∧wE w w':=by
 have L:=I.loc g x hx;obtain⟨ho,hR⟩:=pj I hx oX;have hn:=hR.n;have oz:(aP x).ai≠9:=oX
 unfold KZ makeChan;simp only[ho,hx,bW,eN,aF hk];by_cases h8:8≤w.au.length
 ·rw[aF h8];refine⟨_,rfl,?_⟩;obtain⟨m1,m2,m3⟩:=M.o20 L oz hp w.av {aJ:=7,case:= -1} rfl;obtain⟨J,K⟩:=I.ku hx hs m1 ⟨sX,sX⟩ m2 m3 rfl;exact⟨J,K.ops,K.av,K.list,by rw[K.drawn];omega,K.done,Nat.le_of_eq K.au.symm⟩
 ·rw[aE h8,aE oX];refine⟨_,rfl,?_⟩;obtain⟨m1,m2,m3⟩:=M.o20 L oz hp w.av {aJ:=1,case:= -1,ok:=true,n:=w.au.length+1} rfl;obtain⟨J,K⟩:=I.ku hx hs m1 ⟨sX,sX⟩ m2 m3 rfl;have hl:w.au.length+1-w.aq.length=1:=by have:=I.aq;omega
  have hrk:Ring.Ok {places:=List.replicate (aP x).n.toNat 0}:=
   ⟨Int.le_refl 0,by simp only[vE,and_true];omega,Int.le_refl 0,by simp only[vE];omega,by simp only[vE];omega⟩
  have Z:=J.grow (r:={places:=List.replicate (aP x).n.toNat 0}) (by show w.au.length<8;omega) hrk false;rw[hl];simp only[List.replicate_one];exact⟨Z,K.ops,K.av,K.list,⟨Int.le_refl _,.inl (Int.le_refl _)⟩,K.done,by show w.au.length≤(w.au++[_]).length;simp⟩
theorem bK.d(K:bK w w'):wE w w':=⟨K.ops,K.av,K.list,by rw[K.drawn];omega,K.done,Nat.le_of_eq K.au.symm⟩
section
variable(I:Inv w ls)(hx:w.gs[g]?=some x)(hs:Na w g)
include I hx hs
theorem WI(hp:x.ae=20):∃w',KZ w g=some w'∧Inv w' ls∧wE w w':=by
 by_cases hk:(aP x).ai=1
 ·exact Td I hx hs hp hk
 ·obtain⟨w',h1,h2,h3⟩:=Tb I hx hs hp hk;exact⟨w',h1,h2,h3.d⟩
theorem Mp(hp:x.ae=0)(hd:0≤w.drawn)(Rp:kJ w.drawn=true):∃w',jT w g=some w'∧Inv w' ls∧wE w w':=by
 by_cases ks:x.at_<x.ops.length
 ·by_cases hk:(aP x).ai=9
  ·exact I9 I hx hs hp ks hk hd Rp
  ·obtain⟨w',h1,h2,h3⟩:=I8 I hx hs hp ks hk;exact⟨w',h1,h2,h3.d⟩
 ·obtain⟨w',h1,h2,h3⟩:=PI I hx hs hp oX;exact⟨w',h1,h2,h3.d⟩
end
theorem nN{a:Option Wd}{w':Wd}(h:a=some w'):yes a=some (w',true):=by rw[h];rfl
theorem ud(I:Inv w ls)(hx:w.gs[g]?=some x)(hs:Na w g)(hk:2≤(aP x).ai∧(aP x).ai≤6)(hp:x.ae=4∨x.ae=12∨x.ae=13∨x.ae=15∨x.ae=16∨x.ae=17):∃w' fM,gH w g=some (w',true)∧Inv w' fM∧bK w w':=by
 have L:=I.loc g x hx;obtain⟨ho,hR⟩:=pj I hx oX;have pM:=L.kp oX
 have e:gH w g=(if x.ae=4 then(Mach.lock w g ((aP x).ch-1)).map (·,true)
  else if x.ae=12 then some ((free w ((aP x).ch-1) g).ay g {x with ae:=13},true)
  else if x.ae=13 then some ({w.ay g {x with ae:=14}with ax:=(tD w.ax g).1},true)
  else if x.ae=15 then do
   let s ←nat? x.bY
   let _ ←w.ah[s]?
   some ((({w.cJ s {}with Eg:=(w.Eg.nh g x.bY).1}:Wd).ay g {x with bY:= -1,ae:=18}),true)
  else if x.ae=16 then(dk (free w ((aP x).ch-1) g) g).map (·,true)
  else if x.ae=17 then do
   let z ←x.wakes[0]?
   (dk (({w with ax:=(ready w.ax z).1}:Wd).ay g {x with wakes:=x.wakes.drop 1}) g).map (·,true)
  else some (w,false)):=by
  unfold gH;simp only[hx,ho,bW,eN]
 rw[e];clear e;rcases hp with h|h|h|h|h|h
 ·rw[aF h];obtain⟨w',a,b,c⟩:=OY I hx hs hk h;exact⟨w',ls,by rw[a];rfl,b,c⟩
 ·rw[aE oX,aF h];have jO:(aP x).ai=2∨(aP x).ai=3:=by rw[h]at pM;simpa[bG]using pM
  obtain⟨b,c⟩:=Fw I hx hs jO h;exact⟨_,ls,rfl,b,c⟩
 ·rw[aE oX,aE oX,aF h];have jO:((aP x).ai=2∨(aP x).ai=3)∨(aP x).ai=9:=by rw[h]at pM;simpa[bG]using pM
  obtain⟨b,c⟩:=Fy I hx hs oX h;exact⟨_,ls,rfl,b,c⟩
 ·rw[aE oX,aE oX,aE oX,aF h];have jO:(aP x).ai=2∨(aP x).ai=3:=by rw[h]at pM;simpa[bG]using pM
  obtain⟨s,sd,h1,h2,b,c⟩:=LZ I hx hs jO h;refine⟨_,ls,?_,b,c⟩;have hn:nat? x.bY=some s:=by unfold nat?;rw[aF oX];simp[h1]
  simp only[hn,h2,bW,eN]
 ·rw[aE oX,aE oX,aE oX,aE oX,aF h];obtain⟨w',a,b,c⟩:=ID I hx hs hk h;exact⟨w',ls,by rw[a];rfl,b,c⟩
 ·rw[aE oX,aE oX,aE oX,aE oX,aE oX,aF h];obtain⟨z,w',h1,a,b,c⟩:=Cb I hx hs (.inl hk) h;exact⟨w',ls,by simp only[h1,bW,eN];rw[a];rfl,b,c⟩
theorem Cj{k p:Int}(h:bG k p=true)(hk:1≤k∧k≤5)(hp:0≤p∧p≤34):p≤20:=by
 by_cases hh:20<p
 ·exfalso;have:p=21∨p=22∨p=23∨p=24∨p=25∨p=26∨p=27∨p=28∨p=29∨p=30∨p=31∨p=32∨p=33∨p=34:=by omega
  rcases this with rfl|rfl|rfl|rfl|rfl|rfl|rfl|rfl|rfl|rfl|rfl|rfl|rfl|rfl<;>simp[bG]at h<;>omega
 ·omega
section
variable(I:Inv w ls)(hx:w.gs[g]?=some x)(hs:Na w g)
include I hx hs
theorem tv(hk:2≤(aP x).ai∧(aP x).ai≤5)(hp:x.ae=6):∃w',cD w g 9=some w'∧Inv w' ls∧bK w w':=by
 obtain⟨m1,m2,m3⟩:=M.s6 (I.loc g x hx) hk hp;obtain⟨b,c⟩:=I.ku hx hs m1 ⟨sX,sX⟩ m2 m3 rfl;exact⟨_,by unfold cD fL;rw[hx];rfl,b,c⟩
theorem DO(hk:(aP x).ai=2∨(aP x).ai=4)(h0:x.ae≠0∧x.ae≠18∧x.ae≠19∧x.ae≠20):∃w' fM,jq w g=some (w',true)∧Inv w' fM∧bK w w':=by
 have L:=I.loc g x hx;obtain⟨ho,hR⟩:=pj I hx h0.1;have pM:=L.kp h0.1;have kM:=L.pl;have fin:∀{a:Option Wd},(∃w',a=some w'∧Inv w' ls∧bK w w')→∃w' fM,yes a=some (w',true)∧Inv w' fM∧bK w w':=fun⟨w',a,b,c⟩=>⟨w',ls,nN a,b,c⟩
 have r7:∀{a:Option Wd},(∃w' fM,a=some w'∧Inv w' fM∧bK w w')→∃w' fM,yes a=some (w',true)∧Inv w' fM∧bK w w':=fun⟨w',fM,a,b,c⟩=>⟨w',fM,nN a,b,c⟩
 have k2:x.ae=10∨x.ae=11∨x.ae=14→(aP x).ai=2:=fun h=>by
  exact bi6
 have k4:x.ae=1∨x.ae=2→(aP x).ai=4:=fun h=>by
  exact be6
 unfold jq;simp only[ho,hx,bW,eN];rw[aE oX];by_cases h1:x.ae=1
 ·rw[aF h1];exact fin (Df I hx hs (k4 (.inl h1)) h1)
 rw[aE h1];by_cases h:x.ae=2
 ·rw[aF h];exact fin (AR I hx hs (k4 (.inr h)) h)
 rw[aE h];by_cases h5:x.ae=5
 ·rw[aF h5];exact fin (AS I hx hs hk h5)
 rw[aE h5];by_cases h6:x.ae=6
 ·rw[aF h6];rcases Cc I hx hs oX h6 (.inl rfl)with e|⟨w',fM,e,b,c⟩
  ·simp only[e,eN,nW,dF];exact fin (tv I hx hs oX h6)
  ·simp only[e,eN,dt];exact⟨w',fM,rfl,b,c⟩
 rw[aE h6];by_cases h7:x.ae=7
 ·rw[aF h7];exact r7 (FG I hx hs oX h7)
 rw[aE h7];by_cases h8:x.ae=8
 ·rw[aF h8];exact r7 (Dq I hx hs hk h8 _)
 rw[aE h8];by_cases h9:x.ae=9
 ·rw[aF h9];exact fin (qL I hx hs hk h9)
 rw[aE h9];by_cases ph:x.ae=10
 ·have jO:=k2 (.inl ph);rw[aF ph];exact fin (FJ I hx hs (.inl jO) ph _ rfl rfl rfl rfl (by rw[jO];rfl))
 rw[aE ph];by_cases rA:x.ae=11
 ·have jO:=k2 (.inr (.inl rA));rw[aF rA];exact r7 (Cd I hx hs (.inl jO) rA (by rw[aF jO]))
 rw[aE rA];by_cases Dp:x.ae=14
 ·rw[aF Dp];exact fin (Dk I hx hs (k2 (.inr (.inr Dp))) Dp)
 rw[aE Dp];refine ud I hx hs oX ?_;have h3:x.ae≠3:=fun e=>by rw[e]at pM;rcases hk with hk|hk<;>rw[hk]at pM<;>simp[bG]at pM
 have dD:=Cj pM oX kM;omega
theorem zB(hk:(aP x).ai=3∨(aP x).ai=5)(hp:x.ae=5∨x.ae=6∨x.ae=7∨x.ae=8∨x.ae=9):∃w' fM,iE w g (aP x)=some w'∧Inv w' fM∧bK w w':=by
 have fin:∀{a:Option Wd},(∃w',a=some w'∧Inv w' ls∧bK w w')→∃w' fM,a=some w'∧Inv w' fM∧bK w w':=fun⟨w',a,b,c⟩=>⟨w',ls,a,b,c⟩
 unfold iE;simp only[hx,bW,eN];by_cases h5:x.ae=5
 ·rw[aF h5];exact fin (AT I hx hs hk h5)
 rw[aE h5];by_cases h6:x.ae=6
 ·rw[aF h6];rcases Cc I hx hs oX h6 (.inr rfl)with e|⟨w',fM,e,b,c⟩
  ·simp only[e,eN,nW,dF];exact fin (tv I hx hs oX h6)
  ·simp only[e,eN,dt];exact⟨w',fM,rfl,b,c⟩
 rw[aE h6];by_cases h7:x.ae=7
 ·rw[aF h7];exact FG I hx hs oX h7
 rw[aE h7];by_cases h8:x.ae=8
 ·rw[aF h8];exact Dr I hx hs hk h8
 rw[aE h8];exact fin (qM I hx hs hk oX)
theorem DP(hk:(aP x).ai=3∨(aP x).ai=5)(h0:x.ae≠0∧x.ae≠18∧x.ae≠19∧x.ae≠20):∃w' fM,jr w g=some (w',true)∧Inv w' fM∧bK w w':=by
 have L:=I.loc g x hx;obtain⟨ho,hR⟩:=pj I hx h0.1;have pM:=L.kp h0.1;have kM:=L.pl;have dD:=Cj pM oX kM;have fin:∀{a:Option Wd},(∃w',a=some w'∧Inv w' ls∧bK w w')→∃w' fM,yes a=some (w',true)∧Inv w' fM∧bK w w':=fun⟨w',a,b,c⟩=>⟨w',ls,nN a,b,c⟩
 have r7:∀{a:Option Wd},(∃w' fM,a=some w'∧Inv w' fM∧bK w w')→∃w' fM,yes a=some (w',true)∧Inv w' fM∧bK w w':=fun⟨w',fM,a,b,c⟩=>⟨w',fM,nN a,b,c⟩
 have k3:x.ae=10∨x.ae=11∨x.ae=14→(aP x).ai=3:=fun h=>by
  exact bi6
 have k5:x.ae=1∨x.ae=2∨x.ae=3→(aP x).ai=5:=fun h=>by
  rcases hk with hk|hk
  ·exact aY3
  ·exact hk
 unfold jr;simp only[ho,hx,bW,eN];rw[aE oX];by_cases hc:x.ae=4∨x.ae=12∨x.ae=13∨x.ae=15∨x.ae=16∨x.ae=17
 ·rw[aF bt2];exact ud I hx hs oX hc
 rw[aE bt2];by_cases h1:x.ae=1∨x.ae=2∨x.ae=3
 ·rw[aF h1];exact fin (Dh I hx hs (k5 h1) h1)
 rw[aE h1];by_cases h5:x.ae=5∨x.ae=6∨x.ae=7∨x.ae=8∨x.ae=9
 ·rw[aF h5];exact r7 (zB I hx hs hk h5)
 rw[aE h5];have ph:x.ae=10∨x.ae=11∨x.ae=14:=oX
 have sk:=k3 ph;rw[aF ph];refine r7 ?_;by_cases Dp:x.ae=14
 ·obtain⟨w',a,b,c⟩:=Dl I hx hs sk Dp (aP x).ch;exact⟨w',ls,a,b,c⟩
 unfold j1;simp only[hx,bW,eN];by_cases WT:x.ae=10
 ·rw[aF WT];obtain⟨w',a,b,c⟩:=FJ I hx hs (.inr sk) WT {cK:=true,g:=g,ch:=(aP x).ch,case:= -1} rfl rfl rfl rfl (by rw[sk];rfl);exact⟨w',ls,a,b,c⟩
 rw[aE WT,aF oX];exact Cd I hx hs (.inr sk) oX (by rw[aE oX])
theorem DQ(hk:(aP x).ai=6)(h0:x.ae≠0∧x.ae≠18∧x.ae≠19∧x.ae≠20):∃w' fM,js w g=some (w',true)∧Inv w' fM∧bK w w':=by
 have L:=I.loc g x hx;obtain⟨ho,hR⟩:=pj I hx h0.1;have pM:=L.kp h0.1;have kM:=L.pl;have fin:∀{a:Option Wd},(∃w',a=some w'∧Inv w' ls∧bK w w')→∃w' fM,yes a=some (w',true)∧Inv w' fM∧bK w w':=fun⟨w',a,b,c⟩=>⟨w',ls,nN a,b,c⟩
 have r7:∀{a:Option Wd},(∃w' fM,a=some w'∧Inv w' fM∧bK w w')→∃w' fM,yes a=some (w',true)∧Inv w' fM∧bK w w':=fun⟨w',fM,a,b,c⟩=>⟨w',fM,nN a,b,c⟩
 unfold js;simp only[ho,hx,bW,eN];rw[aE oX];by_cases hc:x.ae=4∨x.ae=12∨x.ae=13∨x.ae=15∨x.ae=16∨x.ae=17
 ·rw[aF bt2];exact ud I hx hs oX hc
 rw[aE bt2];by_cases h1:x.ae=21
 ·rw[aF h1];exact fin (LX I hx hs hk h1)
 rw[aE h1];by_cases h2:x.ae=22
 ·rw[aF h2];exact r7 (L8 I hx hs hk h2)
 rw[aE h2];by_cases h3:x.ae=23
 ·rw[aF h3];exact r7 (Dt I hx hs hk h3)
 exfalso;rw[hk]at pM;have:x.ae=1∨x.ae=2∨x.ae=3∨x.ae=5∨x.ae=6∨x.ae=7∨x.ae=8∨x.ae=9∨x.ae=10∨x.ae=11∨x.ae=14∨x.ae=24∨x.ae=25∨x.ae=26∨x.ae=27∨x.ae=28∨x.ae=29∨x.ae=30∨x.ae=31∨x.ae=32∨x.ae=33∨x.ae=34:=oX
 rcases this with h|h|h|h|h|h|h|h|h|h|h|h|h|h|h|h|h|h|h|h|h|h<;>rw[h]at pM<;>simp[bG]at pM
theorem zw(hk:(aP x).ai=9)(h0:x.ae≠0∧x.ae≠18∧x.ae≠19∧x.ae≠20):∃w' fM,hO w g=some (w',true)∧Inv w' fM∧bK w w':=by
 have L:=I.loc g x hx;obtain⟨ho,hR⟩:=pj I hx h0.1;have pM:=L.kp h0.1;have kM:=L.pl;have fin:∀{a:Option Wd},(∃w',a=some w'∧Inv w' ls∧bK w w')→∃w' fM,yes a=some (w',true)∧Inv w' fM∧bK w w':=fun⟨w',a,b,c⟩=>⟨w',ls,nN a,b,c⟩
 have r7:∀{a:Option Wd},(∃w' fM,a=some w'∧Inv w' fM∧bK w w')→∃w' fM,yes a=some (w',true)∧Inv w' fM∧bK w w':=fun⟨w',fM,a,b,c⟩=>⟨w',fM,nN a,b,c⟩
 have uY:x.ae=13∨x.ae=17∨x.ae=24∨x.ae=25∨x.ae=26∨x.ae=27∨x.ae=28∨x.ae=29∨x.ae=30∨x.ae=14∨x.ae=31∨x.ae=32∨x.ae=33∨x.ae=34:=by
  rw[hk]at pM;by_cases hh:13≤x.ae
  ·by_cases UW:x.ae=15∨x.ae=16∨x.ae=21∨x.ae=22∨x.ae=23
   ·exfalso;rcases UW with h|h|h|h|h<;>rw[h]at pM<;>simp[bG]at pM
   ·omega
  ·exfalso;have:x.ae=1∨x.ae=2∨x.ae=3∨x.ae=4∨x.ae=5∨x.ae=6∨x.ae=7∨x.ae=8∨x.ae=9∨x.ae=10∨x.ae=11∨x.ae=12:=by omega
   rcases this with h|h|h|h|h|h|h|h|h|h|h|h<;>rw[h]at pM<;>simp[bG]at pM
 unfold hO;simp only[ho,hx,bW,eN];rw[aE oX];rcases uY with h|h|h|h|h|h|h|h|h|h|h|h|h|h
 ·rw[aF oX];obtain⟨b,c⟩:=Fy I hx hs oX h;refine⟨_,ls,?_,b,c⟩;unfold gH;simp only[hx,ho,bW,eN];rw[aE oX,aE oX,aF h]
 ·rw[aF oX];obtain⟨z,w',h1,a,b,c⟩:=Cb I hx hs (.inr hk) h;refine⟨w',ls,?_,b,c⟩;unfold gH;simp only[hx,ho,bW,eN];rw[aE oX,aE oX,aE oX,aE oX,aE oX,aF h];simp only[h1,eN];rw[a];rfl
 all_goals rw[aE oX]
 ·rw[aF h];exact fin (aW2 I hx hs hk 25 (.inl ⟨h,rfl⟩))
 all_goals rw[aE oX]
 ·rw[aF h];exact r7 (PG I hx hs hk h)
 all_goals rw[aE oX]
 ·rw[aF h];exact r7 (Mm I hx hs hk h)
 all_goals rw[aE oX]
 ·rw[aF h];exact r7 (DE I hx hs hk h)
 all_goals rw[aE oX]
 ·rw[aF h];exact fin (Bc I hx hs hk h)
 all_goals rw[aE oX]
 ·rw[aF h];exact r7 (zp I hx hs hk h)
 all_goals rw[aE oX]
 ·rw[aF h];exact fin (Du I hx hs hk h)
 all_goals rw[aE oX]
 ·rw[aF h];exact fin (LY I hx hs hk h)
 all_goals rw[aE oX]
 ·rw[aF h];exact fin (aW2 I hx hs hk 32 (.inr ⟨h,rfl⟩))
 all_goals rw[aE oX]
 ·rw[aF h];exact r7 (PE I hx hs hk h)
 all_goals rw[aE oX]
 ·rw[aF h];obtain⟨w1,f,e,⟨rfl,b,c⟩|⟨rfl,w',e2,b,c⟩⟩:=Dw I hx hs hk h
  ·simp only[e,eN,nW,dF];exact⟨w1,ls,rfl,b,c⟩
  ·simp only[e,eN,dt];exact⟨w',ls,nN e2,b,c⟩
 ·rw[aE oX,aF h];exact fin (DC I hx hs hk h)
end
end
end V
open Go.RowKit Go.Proofs.Tryz
section
variable{af:Nat}{F:Fx}{w w0 w':World}{m m0 m':Mem}{S S':Wd}{L:List (Nat×Obj)}
theorem lZ{W W3 w':World}{r:Option Nat}(h:W3.grownBy w' r)(hh:W3.heap=W.heap)(h1:W3.os=W.os)(h2:W3.tape=W.tape)(h3:W3.output=W.output):W.grownBy w' r:=
 ⟨h.os.trans h1,h.tape.trans h2,h.output.trans h3,by rw[←hh];exact h.size,fun k hk hn=>by rw[←hh];exact h.block k (by rw[hh];exact hk) hn⟩
theorem JE(R:bz af F w m S)(h:0<S.aq.length):Calls prog 169 #[.pointer (some ⟨F.dY,0,none⟩),I 0,I (-1)] w (eL (.bool false) fun w'=>w=w'):=by
 have c0:=R.sM;have hx:S.aq[0]?=some S.aq[0]:=fv h;obtain⟨x,AF⟩:=dC (S.aq[0]);rw[←AF]at hx;obtain⟨ob,jz,hh⟩:=Mem.CO (r:=.dQ) (n:=S.aq.length) R (by simp[aj];intro e;rw[e]at h;simp at h);rw[hh]at c0;have c1:w.cell? ⟨ob,0,none⟩=some (I x):=R.cell jz bm7;obtain⟨n,hn⟩:=dC (S.aq.length);rw[←hn]at c0 h;clear R hh AF hx jz hn;go_enter func169,ntmps169;exact aW5
theorem Ub(A:At af F m0 w0 m w S)(h:0<S.aq.length)(n:Nat):Calls prog 169 #[.pointer (some ⟨F.dY,0,none⟩),I 0,I (-1)] (w.drewN n) fun e w'=>e=.returned (.bool false)∧w'=w.drewN n:=
 (JE (A.drewN n).bj h).mono fun e w' h=>⟨h.1,h.2.symm⟩
theorem D7(R:bz af F w m S)(tS:S.au=[])(Dj:S.aO=[])(Fu:0<S.aq.length):Calls prog 134 #[bR F,I 1,.agg #[I 0,.slice none 0 0,B false,I (-1),.slice none 0 0,.slice none 0 0]] w (ee (To af F m w (iu S 0 0))):=by
 obtain⟨i1,hi1,gF,rh,gq⟩:=info_parts KF;obtain⟨i2,hi2,gG,vz,mz⟩:=info_parts P7;obtain⟨va,vc,hh⟩:=R.shape (r:=.au) (n:=0) (by simp[aj,tS]);have hk:S.au.length=0:=by rw[tS];rfl
 have gm:S.aO.length=0:=by rw[Dj];rfl
 have HX:=ag ((AB.iU R).alloc (.cells #[I 0,.slice none 0 0,B false,I (-1),.slice none 0 0,.slice none 0 0] 59));have HN:=ag (fun w=>wY 0 oX w);have HK:=ag hk;have tP:=ag gm;have WV:=ag hh;have vD:=ag R.eS;have TD:Hid (F.al<w.heap.size):=R.lt R.aB.al;clear R hh hk gm tS Dj;unfold bR;go_enter func134,ntmps134;go_wp2_with (first|(go_at_call 193;refine(HN _).mono ?_;rintro e wA ⟨rb,pb,rfl,NY⟩;have P8:=ag NY;have XA:=HX.out.av ((At.refl HX.out.bj).heap NY.below);have RA:=XA.bj;have d5:=RA.qx;rw[HK.out,WV.out]at d5;have fd5:=RA.frozen RA.aB.al 5;have l1:=RA.lt RA.aB.al;have hown:=RA.owns (r:=.au) (p:=(118,1)) rfl dX (n:=0) (by simp[aj,HK.out]);rw[WV.out]at hown;have HO:=ag hown;have qq:=RA.eS;have iv:=ag XA;clear XA RA NY hown)|(at_builtin;go_loud (refine jw (us:=#[.pointer (some ⟨rb,0,none⟩)]) (w2:=wA) rfl (.tmp 24) (.tmp 26) 87 rfl underlying87 hi1 gF rh gq rfl dX dX rfl rfl bi9 (.slice va 0 vc) 0 _ rfl HO rfl oX qq ?_)));intro gg cap w3 ah8 bX bE;have jz:(Value.slice va 0 vc).ownBlock=m.aV .au:=by rw[←WV.out,Mem.mM]
 rw[jz]at bX bE;have FI:(w.alloc (.cells #[I 0,.slice none 0 0,B false,I (-1),.slice none 0 0,.slice none 0 0] 59)).heap.size=w.heap.size+1:=sX
 have P9:=P8.out.rb0;have Qa:=P8.out.pb0;have au1:w.heap.size+1≤rb:=by rw[←FI];exact P9
 have Pj:w.heap.size+1≤pb:=by rw[←FI];exact Qa
 have XB:=iv.out.yc (buf:=.cells #[.pointer (some ⟨rb,0,none⟩)] 118) P8.out.eU P8.out.places P8.out.ne bs5 bs5 (HX.out.bj.iT P9) (HX.out.bj.iT Qa) oX oX oX oX bX (by rw[HK.out];exact ah8) (by simpa using bE);rw[HK.out]at XB;obtain⟨wB,hwB,XB⟩:∃wB,wB=_∧AB af F m w ((m.fR 0 rb pb 0).eG .au (some gg) cap) wB _ _:=⟨_,rfl,XB⟩;have d5b:=fW (o:=.cells #[.pointer (some ⟨rb,0,none⟩)] 118) bX d5 rfl (iv.out.bj.jv iv.out.bj.aB.al sX);have WW:=fN (o:=.cells #[.pointer (some ⟨rb,0,none⟩)] 118) bX fd5 l1 rfl (iv.out.bj.jv iv.out.bj.aB.al sX);have wG:=ag XB;have UT:=ag hwB;clear ah8 bX bE XB hwB;go_upto_region 3 with fail
 rw[←UT.out];clear d5 fd5 d5b WW UT HO qq l1;have RB:=wG.out.bj;have fe6:=RB.frozen RB.aB.al 6;have l1:=RB.lt RB.aB.al;obtain⟨vb,vd,TE⟩:=RB.shape (r:=.aO) (n:=S.aO.length) bn5;have e6:wB.cell? ⟨F.al,6,none⟩=some (.slice vb 0 vd):=by rw[←tP.out,←TE];exact RB.Cv
 have zF:=RB.owns (r:=.aO) (p:=(4,1)) rfl dX (n:=S.aO.length) bn5;rw[TE]at zF;have fu:wB.ownsRow af 4 1 (.slice vb 0 vd) 0 (S.aO.map B):=by rw[←tP.out];exact zF
 have Jg:Hid ((Value.slice vb 0 vd).ownBlock=((m.fR 0 rb pb 0).eG .au (some gg) cap).aV .aO):=by rw[←tP.out,←TE,Mem.mM];exact ag rfl
 have Jh:Hid ((Value.slice vb 0 vd).ownBlock≠some F.al):=by rw[Jg.out];exact RB.jv RB.aB.al sX
 have OJ:=ag fu;have Ga:=RB.eS;obtain⟨b0,b1,b2,b3,b4,b5⟩:=jD wG.out.head;have lb0:w.heap.size<wB.heap.size:=(dh wG.out.head).1;clear RB TE fu zF;go_region_law (refine jN (us:=#[B false]) (w2:=wB) rfl (.tmp 34) (.tmp 37) 88 rfl underlying88 hi2 gG vz mz rfl dX dX rfl rfl bi9 (.slice vb 0 vd) 0 _ rfl OJ rfl oX Ga ?_;intro g2 hU w4 Gb KT qU;have oQ:(wB.alloc (.cells #[B false] 4)).grownBy w4 (Value.slice vb 0 vd).ownBlock:=lZ KT rfl rfl rfl rfl;have d6:=fW (o:=.cells #[B false] 4) oQ e6 rfl Jh;have fd6:=fN (o:=.cells #[B false] 4) oQ fe6 l1 rfl Jh)
 all_goals
  rw[Jg.out]at oQ qU;have hlc:(S.aO++[false]).length=1:=by simp[tP.out]
  have XC:=wG.out.av (((At.refl wG.out.bj).alloc (.cells #[B false] 4)).BP (l:=S.aO++[false]) oQ (by rw[hlc,List.map_append];exact Gb) (by simpa using qU));rw[hlc]at XC;obtain⟨wC,hwC,XC⟩:∃wC,wC=_∧AB af F m w (((m.fR 0 rb pb 0).eG .au (some gg) cap).eG .aO (some g2) hU) wC (iu S 0 0) _:=⟨_,rfl,XC.WU (by simp[iu])⟩;have My:=ag XC;have HWC:=ag hwC;clear Gb oQ KT qU XC hwC;go_upto_region 4 with fail
  rw[←HWC.out];clear HWC d6 fd6 e6 fe6 OJ Ga Jg Jh l1 wG b0 b1 b2 b3 b4 b5;have R1:=My.out.bj;have c7:=R1.pC;obtain⟨b0,b1,b2,b3,b4,b5⟩:=jD My.out.head;have HTQ:=ag (fun q=>Ub My.out.at_ (by simpa[iu]using Fu) q);clear R1;go_quiet ((go_at_call 169;exact Calls.quiet_of_same (HTQ _)));go_upto_region 5 with fail
  go_wp2_with fail
  go_loopw [53] (fun i wr=>i=.int .i64 0∧wr=wC.drewN nq) (fun i _=>0)
  case atStart=>exact⟨rfl,rfl⟩
  case round=>
   obtain⟨rfl,rfl⟩:=hrel;go_wp2_with fail
   go_loopw [69] (fun i wr=>i=.int .i64 0∧wr=wC.drewN nq) (fun i _=>0)
   case atStart=>exact⟨rfl,rfl⟩
   case round=>
    obtain⟨rfl,rfl⟩:=hrel;go_wp2_with fail
    go_end0;exact⟨rfl,_,My.out.at_.drewN _⟩
end
namespace V
def KO(a b c:List Int):Prop:=a.length≤8∧b.length≤8∧c.length≤8
def Sh(p:List bI×List Int):Prop:=(∀x∈p.1,KO x.aH x.aq x.bA)∧p.2.length≤1000
theorem Sh.set{l:List bI}{d:List Int}{g:Nat}{y:bI}(h:Sh (l,d))(hy:KO y.aH y.aq y.bA):Sh (l.set g y,d):=⟨fun x hx=>by
 rcases List.mem_or_eq_of_mem_set hx with h1|h1
 ·exact h.1 x h1
 ·rw[h1];exact hy,h.2⟩
theorem Sh.at{w:Wd}{g:Nat}{x:bI}(h:Sh (w.gs,w.draws))(hx:w.gs[g]?=some x):KO x.aH x.aq x.bA:=h.1 x (lf hx)
theorem mZ{a b c d:List Int}{i v:Int}(h:KO a b c)(hp:put c i v=some d):KO a b d:=by
 unfold put at hp;split at hp
 ·cases hp;exact⟨h.1,h.2.1,by rw[kI];exact h.2.2⟩
 ·cases hp
theorem TS{a b c:List Int}(h:KO a b c):KO a b []:=⟨h.1,h.2.1,by simp⟩
theorem tA{α:Type}{w:Wd}{a:α}{p:Wd×α}(h:some (w,a)=some p)(hs:Sh (w.gs,w.draws)):Sh (p.1.gs,p.1.draws):=by cases h;exact hs
theorem pO{w p:Wd}(h:some w=some p)(hs:Sh (w.gs,w.draws)):Sh (p.gs,p.draws):=by cases h;exact hs
theorem pP{β:Type}{P:β→Prop}{f:β→Wd}{p:Wd}(h:∃a,P a∧f a=p)(hs:∀a,Sh ((f a).gs,(f a).draws)):Sh (p.gs,p.draws):=by obtain⟨a,_,rfl⟩:=h;exact hs a
theorem pQ{α β:Type}{P:β→Prop}{f:β→Wd×α}{p:Wd×α}(h:∃a,P a∧some (f a)=some p)(hs:∀a,Sh ((f a).1.gs,(f a).1.draws)):Sh (p.1.gs,p.1.draws):=by obtain⟨a,_,h⟩:=h;cases h;exact hs a
theorem pR{β γ:Type}{P:β→Prop}{Q:β→γ→Prop}{f:β→γ→Wd}{p:Wd}(h:∃a,P a∧∃b,Q a b∧some (f a b)=some p)(hs:∀a b,Sh ((f a b).gs,(f a b).draws)):Sh (p.gs,p.draws):=by obtain⟨a,_,b,_,h⟩:=h;cases h;exact hs a b
theorem TT{a b c:List Int}{n:Nat}(h:KO a b c)(hn:n≤8):KO a b (List.replicate n (-1)):=⟨h.1,h.2.1,by simpa using hn⟩
theorem Sh.kA{w:Wd}{g:Nat}{x:bI}(h:Sh (w.gs,w.draws))(hx:w.gs[g]?=some x):KO x.aH x.aq []:=TS (h.at hx)
theorem Sh.pS{w:Wd}{g n:Nat}{x:bI}(hn:n≤8)(h:Sh (w.gs,w.draws))(hx:w.gs[g]?=some x):KO x.aH x.aq (List.replicate n (-1)):=TT (h.at hx) hn
theorem jE:KO [] [] []:=⟨by simp,by simp,by simp⟩
section
variable{w w':Wd}{g:Nat}
theorem KP{f:bI→bI}{r:Wd}(h:fL w g f=some r)(hs:Sh (w.gs,w.draws))(hf:∀x,KO x.aH x.aq x.bA→KO (f x).aH (f x).aq (f x).bA):Sh (r.gs,r.draws):=by
 unfold fL at h;rw[aH5]at h;obtain⟨x,hx,rfl⟩:=h;exact hs.set (hf x (hs.at hx))
theorem iD{p:Int}{r:Wd}(h:cD w g p=some r)(hs:Sh (w.gs,w.draws)):Sh (r.gs,r.draws):=KP h hs fun x hx=>hx
theorem zQ{f:bI→bI}{r:Wd}(h:fL w g f=some r)(hf:∀x,(f x).aH=x.aH∧(f x).aq=x.aq∧(f x).bA=x.bA)(hs:Sh (w.gs,w.draws)):Sh (r.gs,r.draws):=KP h hs fun x hx=>by
 obtain⟨h1,h2,h3⟩:=hf x;rw[h1,h2,h3];exact hx
theorem L0:(∀{w:Wd} {g:Nat} {s:Nat} {r:Wd},pair w g s=some r→Sh (w.gs,w.draws)→Sh (r.gs,r.draws))∧(∀{w:Wd} {g:Nat} {s:Nat} {d:Bool} {r:Wd},Mach.serve w g s d=some r→Sh (w.gs,w.draws)→Sh (r.gs,r.draws))∧(∀{w:Wd} {x:Int} {r:Wd},fZ w x=some r→Sh (w.gs,w.draws)→Sh (r.gs,r.draws))∧(∀{w:Wd} {k x:Int} {r:Wd},lh w k x=some r→Sh (w.gs,w.draws)→Sh (r.gs,r.draws))∧(∀{w:Wd} {g:Nat} {r:Wd},dk w g=some r→Sh (w.gs,w.draws)→Sh (r.gs,r.draws))∧(∀{w:Wd} {g:Nat} {l:Int} {r:Wd},lock w g l=some r→Sh (w.gs,w.draws)→Sh (r.gs,r.draws))∧(∀{w:Wd} {c v:Int} {r:Wd×Bool},aH8 w c v=some r→Sh (w.gs,w.draws)→Sh (r.1.gs,r.1.draws))∧(∀{w:Wd} {c:Int} {r:Wd×Int×Bool},getRing w c=some r→Sh (w.gs,w.draws)→Sh (r.1.gs,r.1.draws))∧(∀{w:Wd} {g:Nat} {c:Int} {r:Wd},ll w g c=some r→Sh (w.gs,w.draws)→Sh (r.gs,r.draws))∧(∀{w:Wd} {g:Nat} {c:Int} {r:Wd},jG w g c=some r→Sh (w.gs,w.draws)→Sh (r.gs,r.draws))∧(∀{w:Wd} {g:Nat} {c:Int} {r:Wd},jH w g c=some r→Sh (w.gs,w.draws)→Sh (r.gs,r.draws))∧(∀{w:Wd} {g:Nat} {r:Wd},lu w g=some r→Sh (w.gs,w.draws)→Sh (r.gs,r.draws))∧(∀{w:Wd} {c:Int} {s:Nat} {r:Wd×Int},ik w c s=some r→Sh (w.gs,w.draws)→Sh (r.1.gs,r.1.draws))∧(∀{w:Wd} {g:Nat} {c:Int} {r:Wd},lx w g c=some r→Sh (w.gs,w.draws)→Sh (r.gs,r.draws))∧(∀{w:Wd} {g:Nat} {c:Int} {r:Wd},jI w g c=some r→Sh (w.gs,w.draws)→Sh (r.gs,r.draws))∧(∀{w:Wd} {g:Nat} {c:Int} {r:Wd},uD w g c=some r→Sh (w.gs,w.draws)→Sh (r.gs,r.draws))∧(∀{w:Wd} {g:Nat} {p:Int} {r:Wd},jt w g p=some r→Sh (w.gs,w.draws)→Sh (r.gs,r.draws))∧(∀{w:Wd} {g:Nat} {r:Wd×Bool},Ys w g=some r→Sh (w.gs,w.draws)→Sh (r.1.gs,r.1.draws))∧(∀{w:Wd} {g:Nat} {r:Wd},eH w g=some r→Sh (w.gs,w.draws)→Sh (r.gs,r.draws))∧(∀{w:Wd} {g:Nat} {q:nP} {r:Wd},te w g q=some r→Sh (w.gs,w.draws)→Sh (r.gs,r.draws))∧(∀{w:Wd} {g:Nat} {r:Wd},uF w g=some r→Sh (w.gs,w.draws)→Sh (r.gs,r.draws))∧(∀{w:Wd} {g:Nat} {r:Wd},jK w g=some r→Sh (w.gs,w.draws)→Sh (r.gs,r.draws)):=by
 refine⟨fun h hs=>?_,fun h hs=>?_,fun h hs=>?_,fun h hs=>?_,fun h hs=>?_,fun h hs=>?_,fun h hs=>?_,fun h hs=>?_,fun h hs=>?_,fun h hs=>?_,fun h hs=>?_,fun h hs=>?_,fun h hs=>?_,fun h hs=>?_,fun h hs=>?_,fun h hs=>?_,fun h hs=>?_,fun h hs=>?_,fun h hs=>?_,fun h hs=>?_,fun h hs=>?_,fun h hs=>?_⟩
 case' refine_1=>unfold pair at h
 case' refine_2=>unfold Mach.serve at h
 case' refine_3=>unfold fZ at h
 case' refine_4=>unfold lh at h
 case' refine_5=>unfold dk at h
 case' refine_6=>unfold lock at h
 case' refine_7=>unfold aH8 at h
 case' refine_8=>unfold getRing at h
 case' refine_9=>unfold ll at h
 case' refine_10=>unfold jG at h
 case' refine_11=>unfold jH at h
 case' refine_12=>unfold lu at h
 case' refine_13=>unfold ik at h
 case' refine_14=>unfold lx at h
 case' refine_15=>unfold jI at h
 case' refine_16=>unfold uD at h
 case' refine_17=>unfold jt at h
 case' refine_18=>unfold Ys at h
 case' refine_19=>unfold eH at h
 case' refine_20=>unfold te at h
 case' refine_21=>unfold uF at h
 case' refine_22=>unfold jK at h
 all_goals
  repeat' first|(cases h;done)|(obtain⟨_,_,h⟩:=h)|(split at h)|(simp only[bW,cI,aH5,yes]at h)
 all_goals(try cases h)
 all_goals
  repeat' first|(exact hs)|(refine Sh.set ?_ ?_)|(refine Sh.at ?_ uX)|(refine iD uX ?_)|(exact jE)|(refine Sh.kA ?_ uX)|(refine mZ ?_ uX)|(refine tA uX ?_)|(refine pO uX ?_)|(refine pP uX (fun a=>?_))|(refine pQ uX (fun a=>?_))|(refine pR uX (fun a b=>?_))|(refine Sh.pS uX ?_ uX)|(refine zQ h (fun x=>⟨rfl,rfl,rfl⟩) ?_)|(dsimp only[Wd.ay,Wd.cJ,Wd.dZ,free,bu,eZ])|(split)
theorem L1:(∀{w:Wd} {g:Nat} {r:Wd×Bool},gH w g=some r→Sh (w.gs,w.draws)→Sh (r.1.gs,r.1.draws))∧(∀{w:Wd} {g:Nat} {k a b:Int} {r:Wd×Bool},take w g k a b=some r→Sh (w.gs,w.draws)→Sh (r.1.gs,r.1.draws))∧(∀{w:Wd} {g:Nat} {a b:Int} {r:Wd},rD w g a b=some r→Sh (w.gs,w.draws)→Sh (r.gs,r.draws))∧(∀{w:Wd} {g:Nat} {v:Int} {r:Wd},lp w g v=some r→Sh (w.gs,w.draws)→Sh (r.gs,r.draws))∧(∀{w:Wd} {g:Nat} {o:cu} {r:Wd},jY w g o=some r→Sh (w.gs,w.draws)→Sh (r.gs,r.draws))∧(∀{w:Wd} {g:Nat} {k:Int} {r:Wd},rF w g k=some r→Sh (w.gs,w.draws)→Sh (r.gs,r.draws))∧(∀{w:Wd} {g:Nat} {c:Int} {r:Wd},pZ w g c=some r→Sh (w.gs,w.draws)→Sh (r.gs,r.draws))∧(∀{w:Wd} {g:Nat} {o:cu} {r:Wd},jZ w g o=some r→Sh (w.gs,w.draws)→Sh (r.gs,r.draws))∧(∀{w:Wd} {g:Nat} {r:Wd},yo w g=some r→Sh (w.gs,w.draws)→Sh (r.gs,r.draws))∧(∀{w:Wd} {g:Nat} {r:Wd},iH w g=some r→Sh (w.gs,w.draws)→Sh (r.gs,r.draws))∧(∀{w:Wd} {g:Nat} {o:cu} {r:Wd},o.cases.length≤8→j3 w g o=some r→Sh (w.gs,w.draws)→Sh (r.gs,r.draws))∧(∀{w:Wd} {g:Nat} {o:cu} {r:Wd},jJ w g o=some r→Sh (w.gs,w.draws)→Sh (r.gs,r.draws))∧(∀{w:Wd} {g:Nat} {o:cu} {r:Wd},gK w g o=some r→Sh (w.gs,w.draws)→Sh (r.gs,r.draws))∧(∀{w:Wd} {g:Nat} {r:Wd},uG w g=some r→Sh (w.gs,w.draws)→Sh (r.gs,r.draws)):=by
 refine⟨fun h hs=>?_,fun h hs=>?_,fun h hs=>?_,fun h hs=>?_,fun h hs=>?_,fun h hs=>?_,fun h hs=>?_,fun h hs=>?_,fun h hs=>?_,fun h hs=>?_,fun ho h hs=>?_,fun h hs=>?_,fun h hs=>?_,fun h hs=>?_⟩
 case' refine_1=>unfold gH at h
 case' refine_2=>unfold take at h
 case' refine_3=>unfold rD at h
 case' refine_4=>unfold lp at h
 case' refine_5=>unfold jY at h
 case' refine_6=>unfold rF at h
 case' refine_7=>unfold pZ at h
 case' refine_8=>unfold jZ at h
 case' refine_9=>unfold yo at h
 case' refine_10=>unfold iH at h
 case' refine_11=>unfold j3 at h
 case' refine_12=>unfold jJ at h
 case' refine_13=>unfold gK at h
 case' refine_14=>unfold uG at h
 all_goals
  repeat' first|(cases h;done)|(obtain⟨_,_,h⟩:=h)|(split at h)|(simp only[bW,cI,aH5,yes]at h)
 all_goals(try cases h)
 all_goals
  repeat' first|(exact hs)|(refine Sh.set ?_ ?_)|(refine Sh.at ?_ uX)|(refine L0.2.2.2.2.1 uX ?_)|(refine L0.2.2.2.2.2.1 uX ?_)|(refine iD uX ?_)|(refine L0.1 uX ?_)|(refine L0.2.2.1 uX ?_)|(refine L0.2.1 uX ?_)|(refine L0.2.2.2.2.2.2.1 uX ?_)|(refine L0.2.2.2.1 uX ?_)|(refine L0.2.2.2.2.2.2.2.2.2.2.2.2.1 uX ?_)|(refine L0.2.2.2.2.2.2.2.1 uX ?_)|(refine L0.2.2.2.2.2.2.2.2.2.2.2.2.2.2.2.2.2.1 uX ?_)|(refine L0.2.2.2.2.2.2.2.2.2.2.2.2.2.2.2.2.2.2.2.1 uX ?_)|(exact jE)|(refine Sh.kA ?_ uX)|(refine mZ ?_ uX)|(refine tA uX ?_)|(refine pO uX ?_)|(refine pP uX (fun a=>?_))|(refine pQ uX (fun a=>?_))|(refine pR uX (fun a b=>?_))|(refine Sh.pS uX ?_ uX)|(refine zQ h (fun x=>⟨rfl,rfl,rfl⟩) ?_)|(dsimp only[Wd.ay,Wd.cJ,Wd.dZ,free,bu,eZ])|(split)
theorem L2:(∀{w:Wd} {g:Nat} {s:gn} {r:Wd},rE w g s=some r→Sh (w.gs,w.draws)→Sh (r.gs,r.draws))∧(∀{w:Wd} {g:Nat} {o:cu} {r:Wd},iE w g o=some r→Sh (w.gs,w.draws)→Sh (r.gs,r.draws))∧(∀{w:Wd} {g:Nat} {c:Int} {r:Wd},qt w g c=some r→Sh (w.gs,w.draws)→Sh (r.gs,r.draws))∧(∀{w:Wd} {g:Nat} {r:Wd},ly w g=some r→Sh (w.gs,w.draws)→Sh (r.gs,r.draws))∧(∀{w:Wd} {g:Nat} {c:Case} {r:Wd×nP×Bool×Bool},j4 w g c=some r→Sh (w.gs,w.draws)→Sh (r.1.gs,r.1.draws))∧(∀{w:Wd} {g:Nat} {c:Case} {r:Wd×nP×Bool×Bool},j5 w g c=some r→Sh (w.gs,w.draws)→Sh (r.1.gs,r.1.draws))∧(∀{w:Wd} {g:Nat} {o:cu} {r:Wd},ju w g o=some r→Sh (w.gs,w.draws)→Sh (r.gs,r.draws)):=by
 refine⟨fun h hs=>?_,fun h hs=>?_,fun h hs=>?_,fun h hs=>?_,fun h hs=>?_,fun h hs=>?_,fun h hs=>?_⟩
 case' refine_1=>unfold rE at h
 case' refine_2=>unfold iE at h
 case' refine_3=>unfold qt at h
 case' refine_4=>unfold ly at h
 case' refine_5=>unfold j4 at h
 case' refine_6=>unfold j5 at h
 case' refine_7=>unfold ju at h
 all_goals
  repeat' first|(cases h;done)|(obtain⟨_,_,h⟩:=h)|(split at h)|(simp only[bW,cI,aH5,yes]at h)
 all_goals(try cases h)
 all_goals
  repeat' first|(exact hs)|(refine Sh.set ?_ ?_)|(refine Sh.at ?_ uX)|(refine L1.2.1 uX ?_)|(refine iD uX ?_)|(refine L1.2.2.1 uX ?_)|(refine L0.2.2.2.2.2.2.2.2.2.2.2.2.2.2.1 uX ?_)|(refine L1.2.2.2.2.2.2.1 uX ?_)|(refine L1.2.2.2.2.2.2.2.1 uX ?_)|(refine L1.2.2.2.2.2.2.2.2.1 uX ?_)|(refine L0.2.2.1 uX ?_)|(refine L0.2.2.2.2.2.2.1 uX ?_)|(refine L0.2.2.2.2.2.2.2.1 uX ?_)|(exact jE)|(refine Sh.kA ?_ uX)|(refine mZ ?_ uX)|(refine tA uX ?_)|(refine pO uX ?_)|(refine pP uX (fun a=>?_))|(refine pQ uX (fun a=>?_))|(refine pR uX (fun a b=>?_))|(refine Sh.pS uX ?_ uX)|(dsimp only[Wd.ay,Wd.cJ,Wd.dZ,free,bu,eZ])|(split)
theorem L3:(∀{w:Wd} {g:Nat} {r:Wd×Bool},jq w g=some r→Sh (w.gs,w.draws)→Sh (r.1.gs,r.1.draws))∧(∀{w:Wd} {g:Nat} {c:Int} {r:Wd},j1 w g c=some r→Sh (w.gs,w.draws)→Sh (r.gs,r.draws))∧(∀{w:Wd} {g:Nat} {r:Wd×Bool},js w g=some r→Sh (w.gs,w.draws)→Sh (r.1.gs,r.1.draws))∧(∀{w:Wd} {g:Nat} {o:cu} {r:Wd},o.cases.length≤8→uE w g o=some r→Sh (w.gs,w.draws)→Sh (r.gs,r.draws)):=by
 refine⟨fun h hs=>?_,fun h hs=>?_,fun h hs=>?_,fun ho h hs=>?_⟩
 case' refine_1=>unfold jq at h
 case' refine_2=>unfold j1 at h
 case' refine_3=>unfold js at h
 case' refine_4=>unfold uE at h
 all_goals
  repeat' first|(cases h;done)|(obtain⟨_,_,h⟩:=h)|(split at h)|(simp only[bW,cI,aH5,yes]at h)
 all_goals(try cases h)
 all_goals
  repeat' first|(exact hs)|(refine Sh.set ?_ ?_)|(refine Sh.at ?_ uX)|(refine iD uX ?_)|(refine L1.1 uX ?_)|(refine L1.2.1 uX ?_)|(refine L1.2.2.1 uX ?_)|(refine L2.1 uX ?_)|(refine L0.2.2.2.2.2.2.2.2.1 uX ?_)|(refine L0.2.2.2.2.2.2.2.2.2.1 uX ?_)|(refine L0.2.2.2.2.2.2.2.2.2.2.1 uX ?_)|(refine L1.2.2.2.1 uX ?_)|(refine L1.2.2.2.2.1 uX ?_)|(refine L0.2.2.2.2.2.2.2.2.2.2.2.1 uX ?_)|(refine L1.2.2.2.2.2.1 uX ?_)|(refine L0.2.2.2.2.2.2.2.2.2.2.2.2.2.2.2.1 uX ?_)|(refine L2.2.2.1 uX ?_)|(refine L2.2.2.2.1 uX ?_)|(refine L0.2.2.2.2.2.2.2.2.2.2.2.2.2.2.2.2.2.2.1 uX ?_)|(refine L0.2.2.2.2.2.2.2.2.2.2.2.2.2.2.2.2.2.2.2.1 uX ?_)|(refine L1.2.2.2.2.2.2.2.2.2.2.1 ho uX ?_)|(refine L2.2.2.2.2.1 uX ?_)|(refine L2.2.2.2.2.2.1 uX ?_)|(exact jE)|(refine Sh.kA ?_ uX)|(refine mZ ?_ uX)|(refine tA uX ?_)|(refine pO uX ?_)|(refine pP uX (fun a=>?_))|(refine pQ uX (fun a=>?_))|(refine pR uX (fun a b=>?_))|(refine Sh.pS uX ?_ uX)|(dsimp only[Wd.ay,Wd.cJ,Wd.dZ,free,bu,eZ])|(split)
theorem L4:∀{w:Wd} {g:Nat} {r:Wd×Bool},jr w g=some r→Sh (w.gs,w.draws)→Sh (r.1.gs,r.1.draws):=by
 refine fun h hs=>?_
 unfold jr at h
 all_goals
  repeat' first|(cases h;done)|(obtain⟨_,_,h⟩:=h)|(split at h)|(simp only[bW,cI,aH5,yes]at h)
 all_goals(try cases h)
 all_goals
  repeat' first|(exact hs)|(refine Sh.set ?_ ?_)|(refine Sh.at ?_ uX)|(refine L1.1 uX ?_)|(refine L0.2.2.2.2.2.2.2.2.2.2.2.2.2.1 uX ?_)|(refine L2.2.1 uX ?_)|(refine L3.2.1 uX ?_)|(exact jE)|(refine Sh.kA ?_ uX)|(refine mZ ?_ uX)|(refine tA uX ?_)|(refine pO uX ?_)|(refine pP uX (fun a=>?_))|(refine pQ uX (fun a=>?_))|(refine pR uX (fun a b=>?_))|(refine Sh.pS uX ?_ uX)|(dsimp only[Wd.ay,Wd.cJ,Wd.dZ,free,bu,eZ])|(split)
theorem Gr{α β:Type}{f:α→Option β}:∀{l:List α} {r:List β},l.mapM f=some r→r.length=l.length
 | [],r,h=>by simp at h;subst h;rfl
 |a::l,r,h=>by rw[List.mapM_cons]at h;simp only[bW,cI,Option.pure_def,oZ]at h;obtain⟨b,_,bs,hb,rfl⟩:=h;rw[sV,sV,Gr hb]
theorem xl(x:Int):∀l:List Int,(ji x l).length=l.length+1
 | []=>rfl
 |y::l=>by
  unfold ji;split
  ·rfl
  ·rw[sV,xl x l];rfl
theorem qX:∀(l out:List Int),(l.foldl jL out).length≤out.length+l.length
 | [],out=>sX
 |x::l,out=>by
  rw[List.foldl_cons];have h:=qX l (jL out x)
  have h2:(jL out x).length≤out.length+1:=by
   unfold jL;split
   ·omega
   ·split
    ·omega
    ·simp
  rw[sV];omega
theorem Gs(ids:List Int):(kf ids).length≤ids.length:=by
 unfold kf;have h:=qX (ids.foldr ji []) []
 have h2:(ids.foldr ji []).length=ids.length:=by
  induction ids with
  |nil=>rfl
  |cons x l ih=>rw[List.foldr_cons,xl,ih (qX _ _)];rfl
 simp at h;omega
theorem zT{o:cu}{ds:List Int}{cs:List (Int×Int)}(h:kr w o ds=some cs)(hd:(kB ds ds.length).length≤8):cs.length≤8:=by
 unfold kr at h;rw[aH5]at h;obtain⟨l,hl,rfl⟩:=h;have h1:=Gr hl;have h2:=List.length_filter_le (fun p:Int×Int=>cZ w p.2) l;omega
theorem Bo(ho:∀o,mf w g=some o→o.cases.length≤8){r:Wd×Bool}(h:hO w g=some r)(hs:Sh (w.gs,w.draws)):Sh (r.1.gs,r.1.draws):=by
 unfold hO at h;simp only[bW,cI,yes]at h;obtain⟨o,hoo,x,hx,h⟩:=h;by_cases c0:o.ai≠9
 ·rw[aF c0]at h
  cases h;exact hs
 rw[aE c0]at h;by_cases c1:x.ae=13∨x.ae=17
 ·rw[aF c1]at h;exact L1.1 h hs
 rw[aE c1]at h;by_cases c2:x.ae=24
 ·rw[aF c2]at h;exact bg4
 rw[aE c2]at h;by_cases c3:x.ae=25
 ·rw[aF c3]at h;obtain⟨w1,h1,rfl⟩:=aH5.1 h;exact L3.2.2.2 (ho _ hoo) h1 hs
 rw[aE c3]at h;by_cases c4:x.ae=26
 ·rw[aF c4]at h;obtain⟨w1,h1,rfl⟩:=aH5.1 h;obtain⟨w2,h2,h3⟩:=cI.1 h1;exact L0.2.2.2.2.2.2.2.2.2.2.2.2.2.2.2.2.2.2.1 h3 (L1.2.2.1 h2 hs)
 rw[aE c4]at h;by_cases c5:x.ae=27
 ·rw[aF c5]at h;obtain⟨w1,h1,rfl⟩:=aH5.1 h;exact L1.2.2.2.2.2.2.2.2.2.2.2.1 h1 hs
 rw[aE c5]at h;by_cases c6:x.ae=28
 ·rw[aF c6]at h;obtain⟨w1,h1,rfl⟩:=aH5.1 h;exact L2.2.2.2.2.2.2 h1 hs
 rw[aE c6]at h;by_cases c7:x.ae=29
 ·rw[aF c7]at h;obtain⟨w1,h1,rfl⟩:=aH5.1 h;exact L1.2.2.2.2.2.2.2.2.2.2.2.2.1 h1 hs
 rw[aE c7]at h;by_cases c8:x.ae=30
 ·rw[aF c8]at h;obtain⟨w1,h1,rfl⟩:=aH5.1 h;exact L1.2.2.2.2.2.2.2.2.2.1 h1 hs
 rw[aE c8]at h;by_cases c9:x.ae=14
 ·rw[aF c9]at h;obtain⟨w1,h1,rfl⟩:=aH5.1 h;exact L0.2.2.2.2.2.2.2.2.2.2.2.2.2.2.2.2.2.2.2.2.1 h1 hs
 rw[aE c9]at h;by_cases Fq:x.ae=31
 ·rw[aF Fq]at h;exact bg4
 rw[aE Fq]at h;by_cases c11:x.ae=32
 ·rw[aF c11]at h;obtain⟨w1,h1,rfl⟩:=aH5.1 h;exact L1.2.2.2.2.2.2.2.2.2.2.2.2.2 h1 hs
 rw[aE c11]at h;by_cases c12:x.ae=33
 ·rw[aF c12]at h;obtain⟨⟨w1,fin⟩,h1,h2⟩:=cI.1 h;have k:=L0.2.2.2.2.2.2.2.2.2.2.2.2.2.2.2.2.2.1 h1 hs
  cases fin
  ·cases h2;exact k
  ·obtain⟨w2,h3,rfl⟩:=aH5.1 h2;exact iD h3 k
 rw[aE c12]at h;by_cases V2:x.ae=34
 ·rw[aF V2]at h;obtain⟨w1,h1,rfl⟩:=aH5.1 h;exact L0.2.2.2.2.2.2.2.2.2.2.2.2.2.2.2.2.2.2.2.2.2 h1 hs
 rw[aE V2]at h
 cases h;exact hs
theorem L5:(∀{w:Wd} {g:Nat} {c:Int} {r:Wd},Nc w g c=some r→Sh (w.gs,w.draws)→Sh (r.gs,r.draws))∧(∀{w:Wd} {g:Nat} {r:Wd},never w g=some r→Sh (w.gs,w.draws)→Sh (r.gs,r.draws)):=by
 refine⟨fun h hs=>?_,fun h hs=>?_⟩
 case' refine_1=>unfold Nc at h
 case' refine_2=>unfold never at h
 all_goals
  repeat' first|(cases h;done)|(obtain⟨_,_,h⟩:=h)|(split at h)|(simp only[bW,cI,aH5,yes]at h)
 all_goals(try cases h)
 all_goals
  repeat' first|(exact hs)|(refine Sh.set ?_ ?_)|(refine Sh.at ?_ uX)|(refine iD uX ?_)|(exact jE)|(refine Sh.kA ?_ uX)|(refine mZ ?_ uX)|(refine tA uX ?_)|(refine pO uX ?_)|(refine pP uX (fun a=>?_))|(refine pQ uX (fun a=>?_))|(refine pR uX (fun a b=>?_))|(refine Sh.pS uX ?_ uX)|(refine zQ h (fun x=>⟨rfl,rfl,rfl⟩) ?_)|(dsimp only[Wd.ay,Wd.cJ,Wd.dZ,free,bu,eZ])|(split)
theorem zU{o:cu}(ho:o.cases.length≤8){r:Wd}(h:gM w g o=some r)(hs:Sh (w.gs,w.draws)):Sh (r.gs,r.draws):=by
 unfold gM at h;split at h
 ·cases h
 ·simp only[bW,cI]at h;obtain⟨cs,fa,x,hx,h⟩:=h;have hl:cs.length≤8:=zT fa (by rw[(qO _ _).length_eq,ko,List.length_range,sr];exact ho);have h0:Sh (w.gs.set g {x with aH:=cs.map (·.1),aq:=kf (cs.map (·.2))},w.draws):=hs.set ⟨by simpa using hl,jm (Gs _) (by rw[ko];exact hl),(hs.at hx).2.2⟩;split at h
  ·exact iD h h0
  ·split at h
   ·exact L5.1 h h0
   ·exact L5.2 h h0
theorem MP(ho:∀o,mf w g=some o→o.cases.length≤8){r:Wd}(h:jT w g=some r)(hs:Sh (w.gs,w.draws)):Sh (r.gs,r.draws):=by
 unfold jT at h
 repeat' first
  |(cases h;done)
  |(obtain⟨_,_,h⟩:=h)
  |(split at h)
  |(simp only[bW,cI,aH5,yes]at h)
 all_goals(try cases h)
 all_goals
  repeat' first
   |(exact hs)
   |(refine Sh.set ?_ ?_)
   |(refine Sh.at ?_ uX)
   |(refine iD uX ?_)
   |(refine L5.1 uX ?_)
   |(refine L5.2 uX ?_)
   |(refine zU (ho _ uX) uX ?_)
   |(exact jE)
   |(refine Sh.kA ?_ uX)
   |(refine mZ ?_ uX)
   |(refine tA uX ?_)
   |(refine pO uX ?_)
   |(refine pP uX (fun a=>?_))
   |(refine pQ uX (fun a=>?_))
   |(refine pR uX (fun a b=>?_))
   |(refine Sh.pS uX ?_ uX)
   |(dsimp only[Wd.ay,Wd.cJ,Wd.dZ,free,bu,eZ])
   |(split)
theorem L6:(∀{w:Wd} {n:Int} {r:Wd×nP},makeChan w n=some r→Sh (w.gs,w.draws)→Sh (r.1.gs,r.1.draws))∧(∀{w:Wd} {g:Nat} {r:Wd},mL w g=some r→Sh (w.gs,w.draws)→Sh (r.gs,r.draws)):=by
 refine⟨fun h hs=>?_,fun h hs=>?_⟩
 case' refine_1=>unfold makeChan at h
 case' refine_2=>unfold mL at h
 all_goals
  repeat' first|(cases h;done)|(obtain⟨_,_,h⟩:=h)|(split at h)|(simp only[bW,cI,aH5,yes]at h)
 all_goals(try cases h)
 all_goals
  repeat' first|(exact hs)|(refine Sh.set ?_ ?_)|(refine Sh.at ?_ uX)|(exact jE)|(refine Sh.kA ?_ uX)|(refine mZ ?_ uX)|(refine tA uX ?_)|(refine pO uX ?_)|(refine pP uX (fun a=>?_))|(refine pQ uX (fun a=>?_))|(refine pR uX (fun a b=>?_))|(refine Sh.pS uX ?_ uX)|(dsimp only[Wd.ay,Wd.cJ,Wd.dZ,free,bu,eZ])|(split)
theorem L7:∀{w:Wd} {g:Nat} {r:Wd},KZ w g=some r→Sh (w.gs,w.draws)→Sh (r.gs,r.draws):=by
 refine fun h hs=>?_
 unfold KZ at h
 all_goals
  repeat' first|(cases h;done)|(obtain⟨_,_,h⟩:=h)|(split at h)|(simp only[bW,cI,aH5,yes]at h)
 all_goals(try cases h)
 all_goals
  repeat' first|(exact hs)|(refine Sh.set ?_ ?_)|(refine Sh.at ?_ uX)|(refine L6.1 uX ?_)|(exact jE)|(refine Sh.kA ?_ uX)|(refine mZ ?_ uX)|(refine tA uX ?_)|(refine pO uX ?_)|(refine pP uX (fun a=>?_))|(refine pQ uX (fun a=>?_))|(refine pR uX (fun a b=>?_))|(refine Sh.pS uX ?_ uX)|(dsimp only[Wd.ay,Wd.cJ,Wd.dZ,free,bu,eZ])|(split)
theorem DY(ho:∀o,mf w g=some o→o.cases.length≤8){r:Wd×Bool}(h:gh w g=some r)(hs:Sh (w.gs,w.draws)):Sh (r.1.gs,r.1.draws):=by
 unfold gh at h
 repeat' first
  |(cases h;done)
  |(obtain⟨_,_,h⟩:=h)
  |(split at h)
  |(simp only[bW,cI,aH5,yes]at h)
 all_goals(try cases h)
 all_goals
  repeat' first
   |(exact hs)
   |(refine Sh.set ?_ ?_)
   |(refine Sh.at ?_ uX)
   |(refine MP ho uX ?_)
   |(refine L7 uX ?_)
   |(refine L6.2 uX ?_)
   |(exact jE)
   |(refine Sh.kA ?_ uX)
   |(refine mZ ?_ uX)
   |(refine tA uX ?_)
   |(refine pO uX ?_)
   |(refine pP uX (fun a=>?_))
   |(refine pQ uX (fun a=>?_))
   |(refine pR uX (fun a b=>?_))
   |(refine Sh.pS uX ?_ uX)
   |(dsimp only[Wd.ay,Wd.cJ,Wd.dZ,free,bu,eZ])
   |(split)
theorem Gt{r:Wd×Bool}(h:jq w g=some r)(hs:Sh (w.gs,w.draws)):Sh (r.1.gs,r.1.draws):=L3.1 h hs
theorem Gu{r:Wd×Bool}(h:jr w g=some r)(hs:Sh (w.gs,w.draws)):Sh (r.1.gs,r.1.draws):=L4 h hs
theorem Gv{r:Wd×Bool}(h:js w g=some r)(hs:Sh (w.gs,w.draws)):Sh (r.1.gs,r.1.draws):=L3.2.2.1 h hs
end
end V
theorem Tryz.Uc:(prog.info? 44).map (fun i=>(i.zero,i.size,i.bytes))=some (some (.agg #[I 0,I 0,I 0,B false,I 0]),5,40):=kX
theorem ag3:prog.underlying 69=some (.slice 44):=kX
def oY(l:List Ex):List nP:=(l.filter fun m=>m.g==1).map (·.res)
def Af:List nP→List Value
 | []=>[]
 |r::l=>ru r++Af l
theorem Cr:∀(l:List nP) (o:nP),Af (l++[o])=Af l++ru o
 | [],o=>by simp[Af]
 |a::l,o=>by rw[sY];unfold Af;rw[Cr l o,List.append_assoc]
theorem M1(l:List Ex)(m:Ex):oY (l++[m])=if m.g=1 then oY l++[m.res]else oY l:=by
 unfold oY;rw[List.filter_append,List.map_append];by_cases h:m.g=1
 ·simp[List.filter,h]
 ·have h2:(m.g==1)=false:=by simpa using h
  simp[List.filter,h,h2]
theorem Ud(l:List Ex):(oY l).length≤l.length:=by
 unfold oY;rw[ko];exact List.length_filter_le _ _
theorem QX(x0 x1 x2 x3 x4 x5 x6 x7 x8 x9 RI:Value)(l:List Ex)(n:Nat)(hn:n=l.length)(RH:n≤900000)(xa:Option Addr)(xc:Nat)(w:World)(hS:gC w xa n (bT ib 0 l))(h1:(#[x0,x1,x2,x3,x4,x5,x6,x7,x8,x9,RI]:Array Value).all (·.oneCell')=true):Calls prog 21 #[.agg #[x0,x1,x2,x3,x4,x5,x6,x7,x8,x9,RI,.slice xa n xc],I 1] w fun e w'=>∃a c,e=.returned (.slice a (oY l).length c)∧gC w' a (oY l).length (Af (oY l))∧Below w.heap.size w w':=by
 obtain⟨i0,hi,fV,gF,gG⟩:=info_parts Tryz.Uc;have HN:=ag hn;have HS:=ag hS;clear hS hn;go_enter func21,ntmps21;go_wp2
 have h0:Hid (0=(oY (l.take 0)).length∧(w.alloc (.cells #[x0,x1,x2,x3,x4,x5,x6,x7,x8,x9,RI,.slice xa n xc] 41)).ownsRow w.heap.size 44 5 (.slice none 0 0) 0 (Af (oY (l.take 0)))∧Below w.heap.size w (w.alloc (.cells #[x0,x1,x2,x3,x4,x5,x6,x7,x8,x9,RI,.slice xa n xc] 41))):=
  ⟨rfl,World.ownsRow_nil _ _ _ _,(fp _ _).alloc cG _⟩
 go_loopw [5,11] (fun t i wr=>∃(j:Nat) (a:Option Addr) (k c:Nat),t=.slice a k c∧i=.int .i64 j∧j≤n∧Hid (k=(oY (l.take j)).length∧wr.ownsRow w.heap.size 44 5 (.slice a k c) k (Af (oY (l.take j)))∧Below w.heap.size w wr)) (fun t i _=>n-(intOf i).toNat)
 case atStart=>exact⟨0,none,0,0,rfl,rfl,oX,h0⟩
 case round=>
  clear h0;obtain⟨j,a,k,c,rfl,rfl,hj,HW⟩:=hrel;by_cases dD:j<n
  ·obtain⟨b,off,rfl,hc⟩:=HS.out oX;obtain⟨m,hm⟩:∃m,l[j]?=some m:=⟨_,fv bn0⟩;have HM:=ag hm;have HC:Hid (∀q v,(#[I m.g,I m.op,I m.call,I m.bJ,I m.point,I m.bF,I m.fire,I m.re,I m.res.aJ,I m.res.case,I m.res.v,B m.res.ok,I m.res.n]:Array Value)[q]?=some v→wr.cell? ⟨b,off+j*13+q,none⟩=some v):=fun q v hq=>by have Xc:q<13:=(dh hq).1;have:=hc (j*13+q) v (by rw[fq (f:=ib) (k:=13) (fun _ _=>rfl) l 0 j q m hm Xc];simpa[ib,ru]using hq);rw[←Nat.add_assoc]at this;exact cw HW.out.2.2 cG _ _ this
   have hk:k≤900000:=(by rw[HW.out.1];have:=Ud (l.take j);rw[tC]at this;omega);have qq:w.heap.size≤wr.heap.size:=HW.out.2.2.size;clear hm hc;go_upto_region 4 with fail
   repeat(fail_if_success (refine wpList_load_mid rfl 46 (.tmp 13) rfl b (off+j*13) rfl #[I m.g,I m.op,I m.call,I m.bJ,I m.point,I m.bF,I m.fire,I m.re,I m.res.aJ,I m.res.case,I m.res.v,B m.res.ok,I m.res.n] ?_ ?_ ?_ ?_));go_step
   refine wpList_load_mid rfl 46 (.tmp 13) rfl b (off+j*13) rfl #[I m.g,I m.op,I m.call,I m.bJ,I m.point,I m.bF,I m.fire,I m.re,I m.res.aJ,I m.res.case,I m.res.v,B m.res.ok,I m.res.n] HC Ob vS ?_;repeat(fail_if_success (refine df rfl 46 (.tmp 7) (.tmp 14) rfl wr.heap.size rfl _ #[I m.g,I m.op,I m.call,I m.bJ,I m.point,I m.bF,I m.fire,I m.re,I m.res.aJ,I m.res.case,I m.res.v,B m.res.ok,I m.res.n] rfl rfl ?_ ?_ ?_ ?_));go_step
   refine df rfl 46 (.tmp 7) (.tmp 14) rfl wr.heap.size rfl _ #[I m.g,I m.op,I m.call,I m.bJ,I m.point,I m.bF,I m.fire,I m.re,I m.res.aJ,I m.res.case,I m.res.v,B m.res.ok,I m.res.n] rfl rfl vS rfl bi9 ?_;go_upto_region 5 with fail
   obtain⟨w2,nt⟩:=dC (wr.alloc (.cells #[I m.g,I m.op,I m.call,I m.bJ,I m.point,I m.bF,I m.fire,I m.re,I m.res.aJ,I m.res.case,I m.res.v,B m.res.ok,I m.res.n] 46));obtain⟨mb,ny⟩:∃b,b=wr.heap.size:=⟨_,rfl⟩;rw[←nt,←ny];have kt:w2.heap[mb]?=some (.cells #[I m.g,I m.op,I m.call,I m.bJ,I m.point,I m.bF,I m.fire,I m.re,I m.res.aJ,I m.res.case,I m.res.v,B m.res.ok,I m.res.n] 46 (0,0)):=(by rw[nt,ny];exact dP _ _);have m0:w2.cell? ⟨mb,0,none⟩=some (I m.g):=(by rw[cr _ _ _ _ _ _ kt];rfl);have HO:Hid (w2.ownsRow w.heap.size 44 5 (.slice a k c) k (Af (oY (l.take j)))):=(by rw[nt];exact ou HW.out.2.1 rfl);have HB:Hid (Below w.heap.size w w2∧w.heap.size≤w2.heap.size):=(by rw[nt];exact⟨HW.out.2.2.alloc qq _,bi8⟩);have tm:=ag kt;have HK:=ag HW.out.1;have Ga:=HB.out.2;clear nt ny kt HW HC;have xT:oY (l.take (j+1))=if m.g=1 then oY (l.take j)++[m.res]else oY (l.take j):=by rw[ox HM.out];exact M1 _ _
   by_cases hg:m.g=1
   ·rw[aF hg]at xT;have HT:=ag xT;rw[hg]at m0;clear xT hg;go_upto_region 6 with fail
    repeat(fail_if_success (refine wpList_load_mid rfl 44 (.tmp 20) rfl mb 8 rfl #[I m.res.aJ,I m.res.case,I m.res.v,B m.res.ok,I m.res.n] ?_ ?_ ?_ ?_));go_step
    refine wpList_load_mid rfl 44 (.tmp 20) rfl mb 8 rfl #[I m.res.aJ,I m.res.case,I m.res.v,B m.res.ok,I m.res.n] (fun q v hq=>by rw[cr _ _ _ _ _ _ tm.out];have hq5:q<5:=(dh hq).1;rcases(show q=0∨q=1∨q=2∨q=3∨q=4 by omega)with rfl|rfl|rfl|rfl|rfl<;>exact hq) PT zA ?_;go_wp2_with (at_builtin;go_loud (refine jw (us:=#[I m.res.aJ,I m.res.case,I m.res.v,B m.res.ok,I m.res.n]) (w2:=w2) rfl (.tmp 19) (.tmp 22) 69 rfl ag3 hi fV gF gG rfl dX dX rfl rfl bi9 (.slice a k c) k _ rfl HO rfl oX Ga ?_));intro g cp w3 hown hgr gp
    have KG:Hid (k+1=(oY (l.take (j+1))).length∧w3.ownsRow w.heap.size 44 5 (.slice (some ⟨g,0,none⟩) (k+1) cp) (k+1) (Af (oY (l.take (j+1))))∧Below w.heap.size w w3):=by
     rw[HT.out];refine⟨by rw[py,←HK.out];rfl,by rw[Cr];exact hown,?_⟩;refine(HB.out.1.alloc Ga _).grown hgr bi8 (fun b hb=>?_);rcases HO.out.2 with⟨h1,h2⟩|⟨g',_,_,h1,h2,_⟩
     ·simp only[Value.slice.injEq]at h1;rw[h1.1]at hb;cases hb
     ·simp only[Value.slice.injEq]at h1;rw[h1.1]at hb;simp[Value.ownBlock]at hb;omega
    clear hown hgr gp HO HB tm HK m0;go_wp2;go_roundw
    case rel=>exact⟨j+1,_,_,_,rfl,bl2,oX,KG⟩
    case measure=>simp[intOf];omega
   ·rw[aE hg]at xT;have HT:=ag xT;have EU:(m.g==1)=false:=(by simpa using hg);clear xT hg;have KG:Hid (k=(oY (l.take (j+1))).length∧w2.ownsRow w.heap.size 44 5 (.slice a k c) k (Af (oY (l.take (j+1))))∧Below w.heap.size w w2):=(by rw[HT.out];exact⟨HK,HO,HB.out.1⟩);clear HO HB tm HK;go_wp2;go_roundw
    case rel=>exact⟨j+1,_,_,_,rfl,bl2,oX,KG⟩
    case measure=>simp[intOf];omega
  ·obtain rfl:j=n:=by omega
   go_wp2;go_ret;obtain⟨h1,h2,h3⟩:=HW.out;rw[HN.out,List.take_length]at h1 h2;subst h1;exact⟨_,_,rfl,gC.tO h2,h3⟩
end Go.Proofs.YtadifmnmfnihdaaGreat
