import Derived.Test.YtadifmnmfnihdaaGreatA14
import Derived.Test.YtadifmnmfnihdaaGreatA15
import Derived.Test.YtadifmnmfnihdaaGreatA16
set_option linter.all false
set_option maxRecDepth 100000
set_option maxHeartbeats 40000000
namespace Go.Proofs.YtadifmnmfnihdaaGreat.V
open Mach
section
variable{w w' w2:Wd}{ls:List (List Nat)}{g z s:Nat}{x x' xA y:bI}{sd:gn}
theorem oq(I:Inv w ls)(hx:w.gs[g]?=some x)(s1:gU w.au.length x)(kE:0≤x.k∧x.k<x.aH.length):∃(i:Nat) (c:Case),dU x=some (i:Int)∧x.aH[x.k.toNat]?=some (i:Int)∧iF (aP x) i=some c∧(aP x).cases[i]?=some c∧1≤c.ch∧c.ch≤w.au.length∧c.ch∈x.aq∧kJ x.k=true:=by
 obtain⟨v,hv⟩:∃v,x.aH[x.k.toNat]?=some v:=⟨_,fv (by omega)⟩;obtain⟨h0,c,hc,h1,h2,h3⟩:=s1.ord v (lf hv);obtain⟨i,hi⟩:=pz h0;subst hi;have Ek:(aP x).cases[i]?=some c:=by simpa using hc
 have:=I.c8;refine⟨i,c,?_,hv,?_,Ek,h1,h2,h3,?_⟩
 ·unfold dU idx;rw[aF kE.1];exact hv
 ·unfold iF idx;rw[aF (by omega),oU,Ek];simp only[bW,eN];rw[aF (by unfold kJ;simp;omega)]
 ·have:=s1.len;unfold kJ;simp;omega
theorem KA(hk:(aP x).ai=9)(hp:25≤x.ae∧x.ae≤29∨x.ae=32){c:Int}(h:c∈x.aq):aL x c:=by
 unfold aL;rw[aF hk];have e:bC x=x.aq.length:=by unfold bC;rw[aE (by omega),aF hp]
 rw[e,List.take_length];exact h
theorem PE(I:Inv w ls)(hx:w.gs[g]?=some x)(hs:ea w g)(hk:(aP x).ai=9)(hp:x.ae=32):∃w' fM,uG w g=some w'∧Inv w' fM∧bK w w':=by
 have L:=I.loc g x hx;obtain⟨s1,s2,s3⟩:=L.oW hk (by omega) (by omega) (by omega) (by omega);have kE:=s2.2.2 (by omega);obtain⟨i,c,h1,h2,h3,h4,h5,h6,h7,Dn⟩:=oq I hx s1 kE;have oO:¬aW x:=uy (by omega);obtain⟨v,hv,Rv⟩:=s3.all (by omega) i (lf h2);obtain⟨s,PF⟩:=pz Rv;subst PF;rw[oU]at hv;obtain⟨sd,a1,a2,a3,a4,a5⟩:=I.bA g x i s hx hv
 have bO:sd.ch=c.ch:=by
  rcases a5 with⟨h,_⟩|⟨_,_,_,c',e1,e2,_⟩
  ·exact aX hk h
  ·rw[a4,oU,h4]at e1;cases e1;exact e2
 have mj:s<w.ah.length:=cA a1;obtain⟨q',d1,d2,d3⟩:=I.B8 mj (wm I hx (fun h=>by unfold bm at h;omega) a1 (by rw[bO];exact KA hk (by omega) h7) (by rw[bO];exact⟨h5,h6⟩));have ei:idx x.bA i=some (s:Int):=by unfold idx;rw[aF (by omega),oU];exact hv
 unfold uG;simp only[hx,h1,ei,d1,Dn,bW,eN,m8,dF]
 have fin:∀x':bI,x'.ops=x.ops→x'.at_=x.at_→x'.bY=x.bY→x'.bA=x.bA→x'.wakes=x.wakes→x'.aN=x.aN→Loc w.au.length x'→(∀c,aL x' c↔aL x c)→(x'.ae=32∨x'.ae=33)→
   (∀sd',(∃j:Nat,x.k<j∧x.aH[j]?=some sd'.case)→eV x' sd')→Inv (({w with aw:=q'}:Wd).ay g x') (iA ls s)∧bK w (({w with aw:=q'}:Wd).ay g x'):=by
  intro x' e0 e1 e2 e3 e4 e5 hL hh kM hq;have eE:({w with aw:=q'}:Wd).gs[g]?=some x:=hx;have K:=d2.iQ (x':=x') eE (oM e0 e1) e2 e3;have W:=d2.jU (x':=x') eE (by rw[e4];exact List.Sublist.refl _);refine⟨d2.mn eE hL (fun k l u sd' hl hm hu EU ho SS=>⟨(K.2.2 _ _).2 ho,hq sd' ?_⟩) K.1 K.2.1 (fun j u s sd _ _ _ _ _ _ a b _ _ _=>aX b oO) (fun h=>by unfold aT at h;omega) (fun h=>by unfold bm at h;omega) (d2.qB eE K.2.2 e5 (fun h=>aX h oO)) W.1 W.2 rfl rfl rfl d2.au rfl rfl (d2.lock.same eE hh) rfl rfl rfl (d2.st.same eE hs (fun h=>aX h oO) e5 (fun h=>by omega) (by omega)) (d2.jn.same eE (fun h=>aX h oO) e5 e4 (fun h=>by omega)),dW hx e0,rfl,rfl,rfl,rfl,rfl⟩;rcases SS with⟨h,_⟩|⟨_,h⟩
  ·exact aX hk h
  ·have hj:∃j:Nat,x.k≤j∧x.aH[j]?=some sd'.case:=by
    rcases h with⟨h,_⟩|⟨h,_⟩|h|h|⟨h,_⟩|⟨_,h⟩<;>first|omega|exact h
   obtain⟨j,Ni,EL⟩:=hj;refine⟨j,?_,EL⟩;by_cases hjk:(j:Int)=x.k
   ·exfalso;have ejk:j=x.k.toNat:=(by omega);rw[ejk,h2]at EL;rcases ho with⟨h,_⟩|⟨_,_,UE,_⟩
    ·exact aX hk h
    ·have e6:sd'.case.toNat=i:=(by have:=mx EL;omega);rw[e6,hv]at UE;have e7:u=s:=(by have:=mx UE;omega);subst e7;exact d3 k l hl hm
   ·omega
 by_cases j7:(x.aH.length:Int)≤x.k+1
 ·rw[aF j7];obtain⟨m2,m3⟩:=M.aq3 L hk hp;have F:=fin {x with k:=x.aq.length,ae:=33} rfl rfl rfl rfl rfl rfl m2 m3 (.inr rfl) (fun sd' ⟨j,Ni,EL⟩=>by have:=cA EL;omega);exact⟨_,_,rfl,F⟩
 ·rw[aE j7];obtain⟨m2,m3⟩:=M.aq2 L hk hp (by omega);have F:=fin {x with k:=x.k+1} rfl rfl rfl rfl rfl rfl m2 m3 (.inl hp) (fun sd' ⟨j,Ni,EL⟩=> .inr ⟨hk,.inr (.inr (.inr (.inr (.inr ⟨hp,j,by simp only;omega,EL⟩))))⟩);exact⟨_,_,rfl,F⟩
theorem zp(I:Inv w ls)(hx:w.gs[g]?=some x)(hs:ea w g)(hk:(aP x).ai=9)(hp:x.ae=29):∃w' fM,gK w g (aP x)=some w'∧Inv w' fM∧bK w w':=by
 have L:=I.loc g x hx;obtain⟨s1,s2,s3⟩:=L.oW hk (by omega) (by omega) (by omega) (by omega);have kE:=s2.2.2 (by omega);obtain⟨i,c,h1,h2,h3,h4,h5,h6,h7,Dn⟩:=oq I hx s1 kE;have hc8:=I.c8;obtain⟨v,hv,Rv⟩:=s3.all (by omega) i (lf h2);obtain⟨s,PF⟩:=pz Rv;subst PF;rw[oU]at hv;obtain⟨sd,a1,a2,a3,a4,a5⟩:=I.bA g x i s hx hv
 have fa:sd.ch=c.ch∧sd.cF=c.cF:=by
  rcases a5 with⟨h,_⟩|⟨_,_,_,c',e1,e2,e3⟩
  ·exact aX hk h
  ·rw[a4,oU,h4]at e1;cases e1;exact⟨e2,e3⟩
 have ei:idx x.bA i=some (s:Int):=by unfold idx;rw[aF (by omega),oU];exact hv
 have hq:(if c.cF then 2*c.ch-1 else 2*c.ch-2)=Lh sd:=by unfold Lh;rw[fa.1,fa.2]
 obtain⟨k,jA⟩:=pz (show 0≤Lh sd by rw[←hq];split<;>omega)
 have ZH:k<16:=by
              have:Lh sd<16:=by rw[←hq];split<;>omega
              omega
 have ar6:∀(k':Nat) l',ls[k']?=some l'→s ∉ l':=by
  intro k' l' wi Ht;obtain⟨AU,g2,x2,b1,b2,b3,b4,b5,b6,_⟩:=I.EJ k' l' s wi Ht;rw[a1]at b1;cases b1;obtain rfl:g2=g:=by omega
  rw[hx]at b4;cases b4;rcases b6 with⟨h,_⟩|⟨_,h⟩
  ·exact h hk
  ·have hj:∃j:Nat,(j:Int)<x.k∧x.aH[j]?=some sd.case:=by
    rcases h with⟨_,h⟩|⟨h,_⟩|h|h|⟨h,_⟩|⟨h,_⟩<;>first|omega|exact h
   obtain⟨j,Ni,EL⟩:=hj;rw[a4]at EL;have:=(List.getElem?_inj (cA EL) s1.nd).1 (EL.trans h2.symm);omega
 have fin:∀x':bI,lH x x'→x'.ops=x.ops→Loc w.au.length x'→(∀c,aL x' c↔aL x c)→x'.ae≠14→x'.ae≠19→eV x' sd→
   ∃q' fM,lh w (Lh sd) s=some {w with aw:=q'}∧Inv (({w with aw:=q'}:Wd).ay g x') fM∧bK w (({w with aw:=q'}:Wd).ay g x'):=by
  intro x' M e0 hL hh Dp h19 SS;obtain⟨I1,K1⟩:=I.ku hx hs M ⟨fun h=>aX h Dp,h19⟩ hL hh e0;have eE:(w.ay g x').gs[g]?=some x':=di _ hx;obtain⟨q',l,p1,p2,p3⟩:=I1.UX (s:=s) (k:=k) (g:=g) (sd:=sd) a1 a2 a3 eE (M.owns.2 a5) SS jA.symm ZH ar6 (fun h=>aX (by rw[M.aP];exact hk) h);refine⟨q',_,?_,p3,dW hx e0,rfl,rfl,rfl,rfl,rfl⟩;rw[jA];unfold lh at p2 ⊢;have Nx:(w.aw.push k s).map (fun q=>({(w.ay g x')with aw:=q.1}:Wd))=some {(w.ay g x')with aw:=q'}:=p2
  cases hq:w.aw.push k s with
  |none=>rw[hq]at Nx;cases Nx
  |some q=>
   rw[hq]at Nx;simp only[km,oZ,Wd.mk.injEq,true_and,and_true]at Nx ⊢;exact Nx
 unfold gK;simp only[hx,h1,h3,ei,hq,bW,eN];by_cases j7:(x.aH.length:Int)≤x.k+1
 ·obtain⟨m1,m2,m3⟩:=M.aq1 L hk hp w.av;obtain⟨q',fM,F1,F2⟩:=fin {x with bJ:=w.av,k:=x.aq.length,ae:=30} m1 rfl m2 m3 (by simp) (by simp) (.inr ⟨hk,.inr (.inl ⟨rfl,L.BE hk (by omega)⟩)⟩);simp only[F1,Dn,eN,m8,dF];rw[aF j7];exact⟨_,_,rfl,F2⟩
 ·obtain⟨m1,m2,m3⟩:=M.aq0 L hk hp (by omega);obtain⟨q',fM,F1,F2⟩:=fin {x with k:=x.k+1} m1 rfl m2 m3 (by simp only;omega) (by simp only;omega) (.inr ⟨hk,.inl ⟨hp,x.k.toNat,by simp only;omega,by rw[a4];exact h2⟩⟩);simp only[F1,Dn,eN,m8,dF];rw[aE j7];exact⟨_,_,rfl,F2⟩
theorem IY{l:List Int}{i:Nat}(h:i<l.length)(v:Int):put l (i:Int) v=some (l.set i v):=by unfold put;simp[h]
theorem Bc(I:Inv w ls)(hx:w.gs[g]?=some x)(hs:ea w g)(hk:(aP x).ai=9)(hp:x.ae=28):∃w',ju w g (aP x)=some w'∧Inv w' ls∧bK w w':=by
 have L:=I.loc g x hx;obtain⟨s1,s2,s3⟩:=L.oW hk (by omega) (by omega) (by omega) (by omega);have kE:=s2.2.2 (by omega);obtain⟨i,c,h1,h2,h3,h4,h5,h6,h7,Dn⟩:=oq I hx s1 kE;have hg:g<w.gs.length:=cA hx;have oN:¬aW x:=uy (by omega);have rl:∀sd,¬eV x sd:=Ca (by omega);have FM:i<x.bA.length:=by have:=s3.len (by omega);have:=cA h4;omega
 have Pz:=L.tI (.inl hk);have oE:=L.aN.2 oN;unfold ju;simp only[hx,bW,eN]
 cases eK:(w.ar.take g).2.2 with
 |true=>
  obtain⟨j,Nf,e1,e2,I1,e3⟩:=I.ZV hg eK {cK:=true,g:=g,ch:=c.ch,case:=i,cF:=c.cF,v:=c.v};simp only[m8,dF,h1,h3,e1,eQ,e2,IY FM,Dn,eN];have eE:({w.cJ j {cK:=true,g:=g,ch:=c.ch,case:=i,cF:=c.cF,v:=c.v}with ar:=(w.ar.take g).1}:Wd).gs[g]?=some x:=hx
  have fin:∀x':bI,x'.ops=x.ops→x'.at_=x.at_→x'.bY=x.bY→x'.bA=x.bA.set i j→x'.wakes=x.wakes→x'.aN=x.aN→x'.fire=x.fire→Loc w.au.length x'→(∀c,aL x' c↔aL x c)→(x'.ae=28∨x'.ae=29)→
    Inv (({w.cJ j {cK:=true,g:=g,ch:=c.ch,case:=i,cF:=c.cF,v:=c.v}with ar:=(w.ar.take g).1}:Wd).ay g x') ls∧bK w (({w.cJ j {cK:=true,g:=g,ch:=c.ch,case:=i,cF:=c.cF,v:=c.v}with ar:=(w.ar.take g).1}:Wd).ay g x'):=by
   intro x' f0 f1 f2 f3 f4 f5 f6 hL hh kM;have eg:=oM f0 f1;have W:=I1.jU (x':=x') eE (by rw[f4];exact List.Sublist.refl _)
   refine⟨I1.mn eE hL (fun k l s sd _ _ _ _ a c=>aX c (rl sd)) (fun s h=>by rw[f2,Pz]at h;omega) (fun i' s h=>?_) (fun j u s sd _ _ _ _ _ _ a b _ _ _=>aX b oN) (fun h=>by unfold aT at h;omega) (fun h=>by unfold bm at h;omega)
    (fun s h=>by rw[f5,oE]at h;omega) W.1 W.2 rfl rfl rfl I1.au rfl rfl (I1.lock.same eE hh) rfl rfl rfl (I1.st.same eE hs (fun h=>aX h oN) f5 (fun h=>by omega) (by omega)) (I1.jn.same eE (fun h=>aX h oN) f5 f4 (fun h=>by omega)),dW hx f0,rfl,rfl,rfl,rfl,rfl⟩
   rw[f3]at h;by_cases hi:i'=i
   ·subst hi;rw[nH FM]at h;have:s=j:=by have:=mx h;omega
    subst this;refine⟨_,qN _ e2,rfl,rfl,rfl,.inr ⟨by rw[eg];exact hk,by simp,?_,c,?_,rfl,rfl⟩⟩
    ·rw[f3];simp only[oU];rw[nH FM]
    ·rw[eg];simpa using h4
   ·rw[oA (dE hi)]at h;obtain⟨sd,b1,b2,b3,b4,b5⟩:=I.bA g x i' s hx h;have VA:s≠j:=(by rintro rfl;exact e3 g x hx sd b1 b2);refine⟨sd,(OW _ VA).trans b1,b2,b3,b4,?_⟩;rcases b5 with⟨q,_⟩|⟨q1,q2,q3,q4⟩
    ·exact aX hk q
    ·refine .inr ⟨by rw[eg];exact q1,q2,?_,by rw[eg];exact q4⟩;have e6:sd.case.toNat=i':=(by omega);rw[f3,e6,oA (dE hi)];exact h
  by_cases j7:(x.aH.length:Int)≤x.k+1
  ·rw[aF j7];obtain⟨m2,m3⟩:=M.aq5 L hk hp (by omega) i j h2;exact⟨_,rfl,fin {x with bA:=x.bA.set i j,k:=0,ae:=29} rfl rfl rfl rfl rfl rfl rfl m2 m3 (.inr rfl)⟩
  ·rw[aE j7];obtain⟨m2,m3⟩:=M.aq4 L hk hp (by omega) i j h2;exact⟨_,rfl,fin {x with bA:=x.bA.set i j,k:=x.k+1} rfl rfl rfl rfl rfl rfl rfl m2 m3 (.inl hp)⟩
 |false=>
  simp only[dt];obtain⟨m2,m3⟩:=M.an4 L hk hp;have K:=I.iQ (x':={x with res:={x.res with aJ:=6},k:=x.aq.length,ae:=30}) hx rfl rfl rfl;have W:=I.jU (x':={x with res:={x.res with aJ:=6},k:=x.aq.length,ae:=30}) hx (List.Sublist.refl _);refine⟨w.ay g {x with res:={x.res with aJ:=6},k:=x.aq.length,ae:=30},(by rw[(we I.ar hg).2 eK];rfl),?_,dW hx rfl,rfl,rfl,rfl,rfl,rfl⟩
  exact I.mn hx m2 (fun k l s sd _ _ _ _ a c=>aX c (rl sd)) K.1 K.2.1 (fun j u s sd _ _ _ _ _ _ a b _ _ _=>aX b oN) (fun h=>by unfold aT at h;simp at h) (fun h=>by unfold bm at h;simp at h)
   (fun s h=>by simp only at h;omega) W.1 W.2 rfl rfl rfl I.au rfl rfl (I.lock.same hx m3) rfl rfl rfl (I.st.same hx hs (fun h=>aX h oN) rfl (by simp) (by simp)) (I.jn.same hx (fun h=>aX h oN) rfl rfl (by simp))
theorem DC(I:Inv w ls)(hx:w.gs[g]?=some x)(hs:ea w g)(hk:(aP x).ai=9)(hp:x.ae=34):∃w',jK w g=some w'∧Inv w' ls∧bK w w':=by
 have L:=I.loc g x hx;obtain⟨s1,s2,s3⟩:=L.oW hk (by omega) (by omega) (by omega) (by omega);have kE:=s2.2.2 (by omega);obtain⟨i,c,h1,h2,h3,h4,h5,h6,h7,Dn⟩:=oq I hx s1 kE;have hg:g<w.gs.length:=cA hx;have oN:¬aW x:=uy (by omega);have rl:∀sd,¬eV x sd:=Ca (by omega);have FM:i<x.bA.length:=by have:=s3.len (by omega);have:=cA h4;omega
 have Pz:=L.tI (.inl hk);have oE:=L.aN.2 oN;have J0:x.wakes=[]:=L.uP (by omega) (by omega) (by omega) (by omega) (by omega);obtain⟨v,hv⟩:∃v,x.bA[i]?=some v:=⟨_,fv FM⟩;have ei:idx x.bA i=some v:=by unfold idx;rw[aF (by omega),oU];exact hv
 obtain⟨x',th,f0,f1,f2,f4,f5,hL,hh,kM,oo⟩:∃x':bI,x'=(if(x.aH.length:Int)≤x.k+1 then{x with k:=0,bA:=[],ae:=hJ x}else{x with bA:=x.bA.set i (-1),k:=x.k+1})∧x'.ops=x.ops∧x'.at_=x.at_∧x'.bY=x.bY∧x'.wakes=x.wakes∧x'.aN=x.aN∧Loc w.au.length x'∧(∀c,aL x' c↔aL x c)∧(x'.ae=18∨x'.ae=34)∧
   ∀i' s:Nat,x'.bA[i']?=some (s:Int)→i'≠i∧x'.bA=x.bA.set i (-1):=by
  by_cases j7:(x.aH.length:Int)≤x.k+1
  ·obtain⟨m2,m3⟩:=M.aq7 L hk hp;refine⟨_,rfl,?_⟩;rw[aF j7];have e:hJ x=18:=by unfold hJ;rw[aF J0]
   rw[e];exact⟨rfl,rfl,rfl,rfl,rfl,m2,m3,.inl rfl,fun i' s h=>by simp at h⟩
  ·obtain⟨m2,m3⟩:=M.aq6 L hk hp (by omega) i h2;refine⟨_,rfl,?_⟩;rw[aE j7];refine⟨rfl,rfl,rfl,rfl,rfl,m2,m3,.inr hp,fun i' s h=>⟨fun e=>?_,rfl⟩⟩;subst e;simp only at h;rw[nH FM]at h;have:=mx h;omega
 have eg:=oM f0 f1;have W:=I.jU (x':=x') hx (by rw[f4];exact List.Sublist.refl _)
 have I1:Inv (w.ay g x') ls:=by
  refine I.mn hx hL (fun k l s sd _ _ _ _ a c=>aX c (rl sd)) (fun s h=>by rw[f2,Pz]at h;omega) (fun i' s h=>?_) (fun j u s sd _ _ _ _ _ _ a b _ _ _=>aX b oN) (fun h=>by unfold aT at h;omega) (fun h=>by unfold bm at h;omega)
   (fun s h=>by rw[f5,oE]at h;omega) W.1 W.2 rfl rfl rfl I.au rfl rfl (I.lock.same hx hh) rfl rfl rfl (I.st.same hx hs (fun h=>aX h oN) f5 (fun h=>by omega) (by omega)) (I.jn.same hx (fun h=>aX h oN) f5 f4 (fun h=>by omega))
  obtain⟨cM,Ar⟩:=oo i' s h;have h':=h;rw[Ar,oA (dE cM)]at h;obtain⟨sd,b1,b2,b3,b4,b5⟩:=I.bA g x i' s hx h;refine⟨sd,b1,b2,b3,b4,?_⟩;rcases b5 with⟨q,_⟩|⟨q1,q2,q3,q4⟩
  ·exact aX hk q
  ·refine .inr ⟨by rw[eg];exact q1,q2,?_,by rw[eg];exact q4⟩;have e6:sd.case.toNat=i':=by omega
   rw[e6];exact h'
 have K1:bK w (w.ay g x'):=⟨dW hx f0,rfl,rfl,rfl,rfl,rfl⟩;unfold jK;simp only[hx,h1,ei,bW,eN];by_cases hv1:v= -1
 ·rw[aF hv1];simp only[eN,IY FM,Dn,m8,dF];rw[←th];exact⟨_,rfl,I1,K1⟩
 ·rw[aE hv1];have Rv:=(s3.own i v hv hv1).1;obtain⟨s,PF⟩:=pz Rv;subst PF;obtain⟨sd,b1,b2,b3,b4,b5⟩:=I.bA g x i s hx hv;simp only[eQ,b1,eN,IY FM,Dn,m8,dF];rw[←th];have Pc:=I.cK s sd b1 b2;obtain⟨g1,g2,g3⟩:=B7 (g:=g) I.ar hg Pc;refine⟨_,rfl,?_,dW hx f0,rfl,rfl,rfl,rfl,rfl⟩;refine I1.Wk (s:=s) (sd:=sd) (sd':={}) (p':=(w.ar.nh g s).1) b1 (fun _ j u hu hj ho=>?_) (by simp only[Wd.ay,kI];exact g3) g2 (fun h=>by cases h);obtain rfl:j=g:=by omega
  rw[mH hx]at hu
  cases hu;rcases ho with⟨h,_⟩|⟨_,_,h,_⟩
  ·rw[eg]at h;exact h hk
  ·have e6:sd.case.toNat=i:=by omega
   rw[e6]at h;exact(oo i s h).1 rfl
theorem FY(I:Inv w ls)(hx:w.gs[g]?=some x)(hs:ea w g)(hk:(aP x).ai=9)(hp:x.ae=25)(r:nP)(hr:r.aJ=1∨r.aJ=2∨r.aJ=3)(C5:cV (aP x) w.au.length {x with res:=r,point:=w.av,fire:=r.case}):Inv (w.ay g {x with res:=r,point:=w.av,fire:=r.case,k:=x.aq.length,ae:=30}) ls∧bK w (w.ay g {x with res:=r,point:=w.av,fire:=r.case,k:=x.aq.length,ae:=30}):=by
 obtain⟨m1,m2,m3⟩:=M.am8 (I.loc g x hx) hk hp r w.av hr C5;exact I.ku hx hs m1 ⟨by simp,by simp⟩ m2 m3 rfl
theorem DD(I:Inv w ls)(hx:w.gs[g]?=some x)(hs:ea w g)(hk:(aP x).ai=9)(hp:x.ae=25):∃w',j3 w g (aP x)=some w'∧Inv w' ls∧bK w w':=by
 have L:=I.loc g x hx;obtain⟨s1,s2,s3⟩:=L.oW hk (by omega) (by omega) (by omega) (by omega);have kE:=s2.2.2 (by omega);obtain⟨i,c,h1,h2,h3,h4,h5,h6,h7,Dn⟩:=oq I hx s1 kE;unfold j3;simp only[hx,Dn,bW,eN,m8,dF];by_cases dD:x.k+1<x.aH.length
 ·rw[aF dD];obtain⟨m1,m2,m3⟩:=M.am7 L hk hp dD;exact⟨_,rfl,I.ku hx hs m1 ⟨by simp[hp],by simp[hp]⟩ m2 m3 rfl⟩
 ·rw[aE dD]
  cases he:(aP x).dG with
  |true=>
   simp only[dt];unfold te;rw[qK (di (x:=x) {x with k:=x.k+1} hx),cY];refine⟨_,rfl,?_⟩;exact FY I hx hs hk hp {aJ:=2,case:= -1} (.inr (.inl rfl)) (.inr (.inl ⟨rfl,he,rfl⟩))
  |false=>
   simp only[nW,dF];obtain⟨m2,m3⟩:=M.an0 L hk hp he;have oN:¬aW x:=uy (by omega);have oE:=L.aN.2 oN;have Pz:=L.tI (.inl hk);have W:=I.jU (x':={x with bA:=List.replicate (aP x).cases.length (-1),k:=0,ae:=28}) hx (List.Sublist.refl _);refine⟨_,rfl,?_,dW hx rfl,rfl,rfl,rfl,rfl,rfl⟩
   exact I.mn hx m2 (fun k l s sd _ _ _ _ a c=>aX c (Ca (by omega) sd)) (fun s h=>by simp only at h;omega) (fun i' s h=>by
     simp only[uA]at h;split at h
     ·have:=mx h;omega
     ·cases h) (fun j u s sd _ _ _ _ _ _ a b _ _ _=>aX b oN) (fun h=>by unfold aT at h;simp at h) (fun h=>by unfold bm at h;simp at h)
    (fun s h=>by simp only at h;omega) W.1 W.2 rfl rfl rfl I.au rfl rfl (I.lock.same hx m3) rfl rfl rfl (I.st.same hx hs (fun h=>aX h oN) rfl (by simp) (by simp)) (I.jn.same hx (fun h=>aX h oN) rfl rfl (by simp))
theorem zq(I:Inv w ls)(hx:w.gs[g]?=some x)(hs:ea w g)(hk:(aP x).ai=9)(hp:x.ae=25){c:Int}(hc:c∈x.aq){kk:Int}(kE:kk=2*c-2∨kk=2*c-1):Mach.take w g kk 26 27=some (w,false)∨∃w1,Mach.take w g kk 26 27=some (w1,true)∧∃w' fM,eH w1 g=some w'∧Inv w' fM∧bK w w':=by
 have L:=I.loc g x hx;obtain⟨s1,s2,s3⟩:=L.oW hk (by omega) (by omega) (by omega) (by omega);have hkx:=s2.2.2 (by omega);obtain⟨i,c',h1,h2,h3,h4,h5,h6,h7,Dn⟩:=oq I hx s1 hkx;have hh:=KA hk (by omega) hc;have oO:¬aW x:=uy (by omega);have rl:∀sd,¬eV x sd:=Ca (by omega);rcases FF I hx (fun h=>by unfold bm at h;omega) rl (s1.lk c hc) hh kE 26 27 with h|⟨s,k,l,sd,Vq,Xt,h3',h4',h5',h6'⟩|⟨s,z,sd,y,q',t1,t2,t3,t4,t5,t6,t7,t8,t9,t10,t11,t12,t13,t14⟩
 ·exact .inl h
 ·right;obtain⟨m2,m3⟩:=M.an1 L hk hp s;refine⟨_,Vq,w.ay g {x with br:=s,ae:=26},ls,?_,I.Pe hx hs Xt h3' h4' h5' (.inr (.inl rfl)) rfl (by rw[h6'];exact(m3 _).2 hh) oO rl rfl rfl rfl rfl rfl rfl m2 m3⟩;unfold eH;simp only[mH hx,bW,eN];rw[aE (by simp)]
 ·right;obtain⟨m2,m3⟩:=M.an2 L hk hp s w.av w.av z (i:Int) ⟨x.k.toNat,by omega,h2⟩;have hb:=t2.Kq (x':={x with br:=s,t:=w.av,point:=w.av,bF:=z,fire:=(i:Int),ae:=27}) (b:=y.bk) hx hs t6 t7 t10 t11 t14 t3 t4 t5 t8 (fun h=>aX h t9) (fun _=>rfl) (fun _=>t13) (.inr rfl) rfl (by rw[t12];exact(m3 _).2 hh) oO rl rfl rfl rfl rfl rfl rfl m2 m3 w.av g;refine⟨_,t1,_,iA ls s,?_,hb.1,(show bK w {w with aw:=q'}from⟨rfl,rfl,rfl,rfl,rfl,rfl⟩).trans hb.2⟩;have eE:((({w with aw:=q'}:Wd).ay z {y with point:=w.av,bF:=g,fire:=sd.case}).ay g {x with br:=s,t:=w.av,point:=w.av,bF:=z,ae:=27}).gs[g]?=some {x with br:=s,t:=w.av,point:=w.av,bF:=z,ae:=27}:=by apply di (x:=x);show(w.gs.set z _)[g]?=_;rw[gd _ (dE t6)];exact hx
  have IZ:dU {x with br:=(s:Int),t:=w.av,point:=w.av,bF:=(z:Int),ae:=27}=some (i:Int):=h1;unfold eH;simp only[eE,IZ,bW,eN,dt];rw[cY]
theorem PG(I:Inv w ls)(hx:w.gs[g]?=some x)(hs:ea w g)(hk:(aP x).ai=9)(hp:x.ae=25):∃w' fM,uE w g (aP x)=some w'∧Inv w' fM∧bK w w':=by
 have L:=I.loc g x hx;obtain⟨s1,s2,s3⟩:=L.oW hk (by omega) (by omega) (by omega) (by omega);have kE:=s2.2.2 (by omega);obtain⟨i,c,h1,h2,h3,h4,h5,h6,h7,Dn⟩:=oq I hx s1 kE;obtain⟨b,hb,gm⟩:=Fs I ⟨h5,h6⟩;obtain⟨hm,r,hr,ok⟩:=gz I ⟨h5,h6⟩
 have r9:∀(W:Wd),Inv W ls→bK w W→W.gs=w.gs→W.ax=w.ax→∀rr:nP,(rr.aJ=1∨rr.aJ=3∧c.cF=true)→∃w' fM,te W g {rr with case:=i}=some w'∧Inv w' fM∧bK w w':=by
  intro W IW KW e1 e2 rr pL;have hxW:W.gs[g]?=some x:=by rw[e1];exact hx
  have hsW:ea W g:=by unfold ea;rw[e2];exact hs
  unfold te;rw[qK hxW];refine⟨_,ls,rfl,?_⟩
  have F:=FY IW hxW hsW hk hp {rr with case:=i} (by simp only;omega) (.inl ⟨by simp only;omega,rfl,by simp,c,by simpa using h4,h5,by rw[KW.au];exact h6,fun h=>by
   rcases pL with h'|h'
   ·simp only at h;omega
   ·exact h'.2⟩)
  exact⟨F.1,KW.trans F.2⟩
 have Cf:∀(W:Wd),Inv W ls→bK w W→W.gs=w.gs→W.ax=w.ax→∃w' fM,j3 W g (aP x)=some w'∧Inv w' fM∧bK w w':=by intro W IW KW e1 e2;obtain⟨w',a,b,c⟩:=DD IW (by rw[e1];exact hx) (by unfold ea;rw[e2];exact hs) hk hp;exact⟨w',ls,a,b,KW.trans c⟩
 unfold uE;simp only[hx,h1,h3,bW,eN]
 cases Ar:c.cF with
 |true=>
  simp only[dt];unfold j4;simp only[hb,bW,eN]
  cases b with
  |true=>
   simp only[dt,eN,nW,dF];exact r9 w I (bK.refl w) rfl rfl {aJ:=3} (.inr ⟨rfl,Ar⟩)
  |false=>
   simp only[nW,dF];rcases zq I hx hs hk hp h7 (kk:=2*c.ch-2) (.inl rfl)with ht|⟨w1,ht,w',fM,t1,t2,t3⟩
   ·simp only[ht,eN,nW,dF,lj,hr,bW];obtain⟨I2,K2⟩:=I.Pf (c.ch-1).toNat (Ring.C2 ok c.v)
    cases eK:(r.put c.v).2 with
    |true=>
     simp only[dt,eN,nW,dF];exact r9 _ I2 K2 rfl rfl {aJ:=1,ok:=true} (.inl rfl)
    |false=>
     simp only[nW,dF,eN];exact Cf _ I2 K2 rfl rfl
   ·simp only[ht,eN,dt];exact⟨w',fM,t1,t2,t3⟩
 |false=>
  simp only[nW,dF];unfold j5;rcases zq I hx hs hk hp h7 (kk:=2*c.ch-1) (.inr rfl)with ht|⟨w1,ht,w',fM,t1,t2,t3⟩
  ·simp only[ht,eN,nW,dF,getRing,hr,bW];obtain⟨I2,K2⟩:=I.Pf (c.ch-1).toNat (Ring.C3 ok)
   cases eK:r.get.2.2 with
   |true=>
    simp only[dt,eN,nW,dF];exact r9 _ I2 K2 rfl rfl {aJ:=1,v:=r.get.2.1,ok:=true} (.inl rfl)
   |false=>
    have ff:idx (w.dZ (c.ch-1).toNat r.get.1).aO (c.ch-1)=some b:=hb;simp only[nW,dF,ff,eN]
    cases b with
    |true=>
     simp only[dt,eN,nW,dF];exact r9 _ I2 K2 rfl rfl {aJ:=1} (.inl rfl)
    |false=>
     simp only[nW,dF,eN];exact Cf _ I2 K2 rfl rfl
  ·simp only[ht,bW,eN,dt];exact⟨w',fM,t1,t2,t3⟩
theorem Mm(I:Inv w ls)(hx:w.gs[g]?=some x)(hs:ea w g)(hk:(aP x).ai=9)(hp:x.ae=26):∃w' fM,(rD w g 25 27).bind (eH · g)=some w'∧Inv w' fM∧bK w w':=by
 have L:=I.loc g x hx;obtain⟨s1,s2,s3⟩:=L.oW hk (by omega) (by omega) (by omega) (by omega);have kE:=s2.2.2 (by omega);obtain⟨i,c,h1,h2,h3,h4,h5,h6,h7,Dn⟩:=oq I hx s1 kE;have oO:¬aW x:=uy (by omega);have rl:∀sd,¬eV x sd:=Ca (by omega);obtain⟨m1,m2,m3⟩:=M.am9 L hk hp;have F:=I.ku hx hs m1 ⟨by simp,by simp⟩ m2 m3 rfl;rcases Kt I hx (.inr (.inl hp)) oO rl 25 27 (by omega) ⟨F.1,m3⟩with⟨w',fM,t1,t2,t3,t4⟩|⟨s,z,k,l,sd,y,t1,t2,t3,t4,t5,t6,t7,t8,t9,t10,t11,t12,t13⟩
 ·refine⟨w',fM,?_,t2,t3⟩;rw[t1];have eE:w'.gs[g]?=some {x with br:= -1,ae:=25}:=by rw[t4];exact di _ hx
  simp only[eN];unfold eH;simp only[eE,bW,eN];rw[aE (by simp)]
 ·obtain⟨m2,m3⟩:=M.an3 L hk hp w.av w.av z (i:Int) ⟨x.k.toNat,by omega,h2⟩;refine⟨_,ls,?_,I.Kq (x':={x with t:=w.av,point:=w.av,bF:=z,fire:=(i:Int),ae:=27}) (b:=true) hx hs t6 t7 t10 t11 t13 t3 t4 t5 t8 (fun _=>rfl) (fun h=>aX t9 h) (fun h=>aX t9 h) (.inr rfl) t2 ((m3 _).2 t12) oO rl rfl rfl rfl rfl rfl rfl m2 m3 w.av g⟩;rw[t1];have eE:((w.ay z {y with point:=w.av,bF:=g,fire:=sd.case,bk:=true}).ay g {x with t:=w.av,point:=w.av,bF:=z,ae:=27}).gs[g]?=some {x with t:=w.av,point:=w.av,bF:=z,ae:=27}:=by apply di (x:=x);show(w.gs.set z _)[g]?=_;rw[gd _ (dE t6)];exact hx
  have IZ:dU {x with t:=w.av,point:=w.av,bF:=(z:Int),ae:=27}=some (i:Int):=h1;simp only[eN];unfold eH;simp only[eE,IZ,bW,eN,dt];rw[cY]
theorem DE(I:Inv w ls)(hx:w.gs[g]?=some x)(hs:ea w g)(hk:(aP x).ai=9)(hp:x.ae=27):∃w' fM,jJ w g (aP x)=some w'∧Inv w' fM∧bK w w':=by
 have L:=I.loc g x hx;obtain⟨s1,s2,s3⟩:=L.oW hk (by omega) (by omega) (by omega) (by omega);have kE:=s2.2.2 (by omega);obtain⟨i,c,h1,h2,h3,h4,h5,h6,h7,Dn⟩:=oq I hx s1 kE;have oO:¬aW x:=uy (by omega);obtain⟨s,ON⟩:=pz (L.br (.inl (.inr hp)));obtain⟨z,sd,y,q',d1,d2,d3,d4,d5,d6,F⟩:=I.Pg hx hs (.inr hp) oO (Ca (by omega)) ON;have hn:nat? x.br=some s:=by rw[ON];exact eQ s
 have KB:x.fire=(i:Int):=by
  obtain⟨_,⟨j,hj,EL⟩,_⟩:=L.hand hp;have:j=x.k.toNat:=by omega
  rw[this,h2]at EL;exact(mx EL).symm
 have iw:∀v,cV (aP x) w.au.length {x with res:={aJ:=1,case:=i,ok:=true,v:=v}}:=fun v=> .inl ⟨.inl rfl,KB,by simp,c,by simpa using h4,h5,h6,fun h=>by simp at h⟩
 have V5:=I.sj hx;unfold jJ;simp only[hx,h1,hn,h3,d1,bW,eN]
 cases Ar:c.cF with
 |true=>
  simp only[dt,d2,eN];obtain⟨m1,m2,m3⟩:=M.c27 L hk hp {aJ:=1,case:=i,ok:=true,v:=0} rfl (iw 0);have F:=F _ (.inl rfl) {sd with v:=c.v,done:=true} ⟨rfl,rfl,rfl,rfl,rfl⟩ {x with res:={aJ:=1,case:=i,ok:=true,v:=0},br:= -1,k:=x.aq.length,ae:=30} (.inr (.inr ⟨rfl,rfl⟩)) (fun h=>oO (m1.wt.1 h)) rfl rfl rfl rfl rfl rfl m2 m3;rw[sh (w:=({w with aw:=q'}:Wd).cJ s {sd with v:=c.v}) (z:=z) (y:=y) (sd:={sd with v:=c.v}) hx (qN _ d2) d3 d5 d4 (by omega)];simp only[eN];rw[qK (x:={x with wakes:=x.wakes++[(z:Int)],br:= -1}) (di (x:=x) _ (by show(w.gs.set z _)[g]?=_;rw[gd _ (dE d4)];exact hx))];refine⟨_,iA ls s,rfl,?_⟩;rw[cY];have e:((({w with aw:=q'}:Wd).cJ s {sd with v:=c.v}).cJ s {sd with v:=c.v,done:=true})=({w with aw:=q'}:Wd).cJ s {sd with v:=c.v,done:=true}:=by unfold Wd.cJ;simp only[my]
  rw[e];exact F
 |false=>
  simp only[nW,dF];obtain⟨hm,r,hr,ok⟩:=gz I ⟨h5,h6⟩
  have hR:∃w2 v,ik ({w with aw:=q'}:Wd) c.ch s=some (w2,v)∧(w2=({w with aw:=q'}:Wd)∨∃c r,r.Ok∧w2=({w with aw:=q'}:Wd).dZ c r):=by
   have Ht:cZ ({w with aw:=q'}:Wd) c.ch=true:=hm;have hT:kq ({w with aw:=q'}:Wd) c.ch=some ((c.ch-1).toNat,r):=hr;unfold ik;simp only[Ht,hT,d2,m8,dF,bW,eN];by_cases h0:r.room=0
   ·rw[aF h0];exact⟨_,_,rfl,.inl rfl⟩
   ·rw[aE h0];exact⟨_,_,rfl,.inr ⟨_,_,Ring.Kg ok _,rfl⟩⟩
  obtain⟨W,v,jk,nt⟩:=hR;obtain⟨m1,m2,m3⟩:=M.c27 L hk hp {aJ:=1,case:=i,ok:=true,v:=v} rfl (iw v);have F:=F W nt {sd with done:=true} ⟨rfl,rfl,rfl,rfl,rfl⟩ {x with res:={aJ:=1,case:=i,ok:=true,v:=v},br:= -1,k:=x.aq.length,ae:=30} (.inr (.inr ⟨rfl,rfl⟩)) (fun h=>oO (m1.wt.1 h)) rfl rfl rfl rfl rfl rfl m2 m3;have zd:W.gs=w.gs∧W.ah=w.ah:=by rcases nt with rfl|⟨c,r,_,rfl⟩<;>exact⟨rfl,rfl⟩
  simp only[jk,eN];rw[sh (w:=W) (z:=z) (y:=y) (sd:=sd) (x:=x) (by rw[zd.1];exact hx) (by rw[zd.2];exact d2) d3 (by rw[zd.1];exact d5) d4 (by omega)];simp only[eN];rw[qK (x:={x with wakes:=x.wakes++[(z:Int)],br:= -1}) (di (x:=x) _ (by show(W.gs.set z _)[g]?=_;rw[gd _ (dE d4),zd.1];exact hx))];refine⟨_,iA ls s,rfl,?_⟩;rw[cY];exact F
end
end Go.Proofs.YtadifmnmfnihdaaGreat.V
namespace Go.Proofs.YtadifmnmfnihdaaGreat
open Mach
def fI(l:List Int)(d:Int):Nat→List Int×Int
 |0=>([],d)
 |k+1=>((fI l d k).1++[(gw l (fI l d k).2 ((k:Int)+1)).1],(gw l (fI l d k).2 ((k:Int)+1)).2)
theorem ke(l:List Int)(d:Int)(k:Nat):(fI l d k).1.length=k:=by
 induction k with
 |zero=>rfl
 |succ k ih=>simp[fI,ih]
theorem u4(l:List Int):∀(n i:Nat) (d:Int),gy l d i (n+1)=((gy l d i n).1++[(gw l (gy l d i n).2 ((i:Int)+n+1)).1],(gw l (gy l d i n).2 ((i:Int)+n+1)).2)
 |0,i,d=>by simp[gy]
 |n+1,i,d=>by
  rw[gy,u4 l n (i+1)];conv=>rhs;rw[gy]
  have e:(((i+1:Nat):Int)+(n:Int)+1)=((i:Int)+((n+1:Nat):Int)+1):=by omega
  simp only[e,sY]
theorem I6(l:List Int)(d:Int)(n:Nat):gy l d 0 n=fI l d n:=by
 induction n with
 |zero=>rfl
 |succ k ih=>
  rw[u4,ih];simp[fI]
theorem Mn(l:List Int)(i j:Nat):ND l i j=iO l i j:=rfl
theorem PH(ds:List Int)(k:Nat):kB ds k=rz ds k:=by
 induction k with
 |zero=>rfl
 |succ k ih=>simp only[kB,rz,ih,Mn]
theorem u5(x:Int)(l:List Int):(ji x l).Perm (x::l):=by
 induction l with
 |nil=>exact .refl _
 |cons y l ih=>
  unfold ji;split
  ·exact .refl _
  ·exact(List.Perm.cons y ih).trans (List.Perm.swap x y l)
theorem zr(x:Int)(l:List Int)(h:l.Pairwise (· ≤·)):(ji x l).Pairwise (· ≤·):=by
 induction l with
 |nil=>simp[ji]
 |cons y l ih=>
  unfold ji;rw[List.pairwise_cons]at h;split
  ·rename_i hxy;rw[List.pairwise_cons];refine⟨fun z hz=>?_,List.pairwise_cons.2 h⟩;rcases iL.1 hz with rfl|hz
   ·exact hxy
   ·have:=h.1 z hz;omega
  ·rename_i hxy;rw[List.pairwise_cons];refine⟨fun z hz=>?_,ih h.2⟩;rcases iL.1 ((u5 x l).mem_iff.1 hz)with rfl|hz
   ·omega
   ·exact h.1 z hz
theorem zt(l:List Int):(l.foldr ji []).Perm l:=by
 induction l with
 |nil=>exact .refl _
 |cons x l ih=>exact(u5 x _).trans (ih.cons x)
theorem u6(l:List Int):(l.foldr ji []).Pairwise (· ≤·):=by
 induction l with
 |nil=>simp
 |cons x l ih=>exact zr x _ ih
theorem DF:jL=oK:=rfl
theorem I7(l:List Int):kf l=rZ l:=by
 unfold kf rZ fb;rw[EO (zt l) (u6 l),DF,yl (by rw[lI];exact Nat.le_refl _)]
theorem DG(l:List Int)(d:Int)(k:Nat):d≤(fI l d k).2∧(fI l d k).2≤d+k:=by
 induction k with
 |zero=>simp[fI]
 |succ k ih=>
  simp only[fI];unfold gw;split<;>simp<;>omega
end Go.Proofs.YtadifmnmfnihdaaGreat
namespace Go.Proofs.YtadifmnmfnihdaaGreat.V
open Mach
theorem qO(ds:List Int):∀k,(kB ds k).Perm ((List.range k).map fun i:Nat=>(i:Int))
 |0=>by simp[kB]
 |k+1=>by
  have ih:=qO ds k;have hl:(kB ds k).length=k:=by rw[ih.length_eq];simp
  unfold kB;rw[List.range_succ,List.map_append];refine(tF _ _ _ (by simp[hl]) ?_).trans (ih.append_right _);have h1:=Int.emod_nonneg (ds.getD k 0) (b:=(k:Int)+1) (by omega);have h2:=Int.emod_lt_of_pos (ds.getD k 0) (b:=(k:Int)+1) (by omega);simp only[py,hl,sV,List.length_nil];omega
theorem FZ(ds:List Int)(k:Nat):(kB ds k).Nodup:=by
 refine(qO ds k).nodup_iff.2 ?_;refine List.pairwise_map.2 (List.nodup_range.imp fun h e=>h (by omega))
theorem mX:∀(l out:List Int),l.Pairwise (· ≤·)→out.Pairwise (· <·)→(∀a∈out,0<a)→(∀a∈out,∀b∈l,a≤b)→(l.foldl jL out).Pairwise (· <·)∧∀v,v∈l.foldl jL out↔v∈out∨(v∈l∧0<v)
 | [],out,_,h2,_,_=>⟨h2,fun v=>by simp⟩
 |x::l,out,h1,h2,h3,h4=>by
  rw[List.pairwise_cons]at h1;rw[List.foldl_cons];unfold jL;by_cases hx:x≤0
  ·rw[aF hx];obtain⟨a,b⟩:=mX l out h1.2 h2 h3 (fun a ha b hb=>h4 a ha b (nO _ hb));refine⟨a,fun v=>(b v).trans ?_⟩;simp only[iL];constructor
   ·rintro(h|⟨h,h'⟩)
    ·exact .inl h
    ·exact .inr ⟨.inr h,h'⟩
   ·rintro(h|⟨h|h,h'⟩)
    ·exact .inl h
    ·omega
    ·exact .inr ⟨h,h'⟩
  ·rw[aE hx];by_cases hl:0<out.length∧out.getD (out.length-1) 0=x
   ·rw[aF hl];have hxm:x∈out:=(by rw[←hl.2,yk,fv (by omega)];exact List.getElem_mem _);obtain⟨a,b⟩:=mX l out h1.2 h2 h3 (fun a ha b hb=>h4 a ha b (nO _ hb));refine⟨a,fun v=>(b v).trans ?_⟩;simp only[iL];constructor
    ·rintro(h|⟨h,h'⟩)
     ·exact .inl h
     ·exact .inr ⟨.inr h,h'⟩
    ·rintro(h|⟨h|h,h'⟩)
     ·exact .inl h
     ·subst h;exact .inl hxm
     ·exact .inr ⟨h,h'⟩
   ·rw[aE hl]
    have dD:∀a∈out,a<x:=by
     intro a ha;have hle:=h4 a ha x (by simp);by_cases e:a=x
     ·exfalso;obtain⟨j,hj,hja⟩:=List.getElem_of_mem ha;have j7:out.getD (out.length-1) 0=out[out.length-1]'(by omega):=(by rw[yk,fv (by omega)];rfl);have h5:out[out.length-1]'(by omega)≤x:=h4 _ (List.getElem_mem _) x (by simp);by_cases vy:j=out.length-1
      ·exact hl ⟨by omega,by rw[j7];subst vy;omega⟩
      ·have:=List.pairwise_iff_getElem.1 h2 j (out.length-1) hj (by omega) (by omega);omega
     ·omega
    obtain⟨a,b⟩:=mX l (out++[x]) h1.2 (by
      rw[List.pairwise_append];exact⟨h2,by simp,fun a ha b hb=>by simp at hb;subst hb;exact dD a ha⟩) (fun a ha=>by
      rcases List.mem_append.1 ha with h|h
      ·exact h3 a h
      ·simp at h;omega) (fun a ha b hb=>by
      rcases List.mem_append.1 ha with h|h
      ·exact h4 a h b (nO _ hb)
      ·simp at h;subst h;exact h1.1 b hb)
    refine⟨a,fun v=>(b v).trans ?_⟩;simp only[List.mem_append,iL,List.not_mem_nil,or_false];constructor
    ·rintro((h|h)|⟨h,h'⟩)
     ·exact .inl h
     ·exact .inr ⟨.inl h,by omega⟩
     ·exact .inr ⟨.inr h,h'⟩
    ·rintro(h|⟨h|h,h'⟩)
     ·exact .inl (.inl h)
     ·exact .inl (.inr h)
     ·exact .inr ⟨h,h'⟩
theorem DH(l:List Int):(kf l).Pairwise (· <·)∧∀v,v∈kf l↔v∈l∧0<v:=by
 obtain⟨a,b⟩:=mX (l.foldr ji []) [] (u6 l) (by simp) (by simp) (by simp);refine⟨a,fun v=>(b v).trans ?_⟩;simp only[List.not_mem_nil,false_or];rw[(zt l).mem_iff]
section
variable{w w' w2:Wd}{ls:List (List Nat)}{g z s:Nat}{x x' xA y:bI}{sd:gn}
theorem DI(h0:0≤x.at_)(h1:x.at_<x.ops.length):aP x∈x.ops:=by
 unfold aP idx;rw[aF h0];obtain⟨o,ho⟩:∃o,x.ops[x.at_.toNat]?=some o:=⟨_,fv (by omega)⟩;rw[ho];exact lf ho
theorem KC(I:Inv w ls)(hx:w.gs[g]?=some x)(h1:x.at_<x.ops.length):mf w g=some (aP x)∧Vz (aP x):=by
 have L:=I.loc g x hx;have hR:=L.ops _ (DI L.JY.1 h1);refine⟨?_,hR⟩;unfold mf;rw[qd hx];have:=hR.ch;have:=hR.cl;rw[aF ⟨by unfold kJ;simp;omega,by omega⟩]
theorem zu{w:Wd}{c:Int}:cZ w c=true↔1≤c∧c≤w.au.length:=by unfold cZ;simp
theorem nC.WH(x:bI)(p:Int)(st:Int)(r:nP)(c:Int)(hr:r.case= -1)(hp:p≠24):nC x {bu x with call:=c,res:=r,point:=st,ae:=p}:=
 ⟨rfl,rfl,rfl,rfl,rfl,rfl,rfl,fun _=>⟨rfl,hr,rfl⟩,fun h=>aX h hp⟩
theorem PI(I:Inv w ls)(hx:w.gs[g]?=some x)(hs:ea w g)(hp:x.ae=0)(ks:(x.ops.length:Int)≤x.at_):∃w',jT w g=some w'∧Inv w' ls∧bK w w':=by
 refine⟨_,?_,I.ap8 hx hs hp ks⟩;unfold jT;simp only[hx,bW,eN,ks,dt]
theorem I8(I:Inv w ls)(hx:w.gs[g]?=some x)(hs:ea w g)(hp:x.ae=0)(ks:x.at_<x.ops.length)(hk:(aP x).ai≠9):∃w',jT w g=some w'∧Inv w' ls∧bK w w':=by
 obtain⟨ho,hR⟩:=KC I hx ks;have kE:=hR.k;have hxC:(w.ay g {bu x with call:=w.av}).gs[g]?=some {bu x with call:=w.av}:=di (x:=x) _ hx
 have bt:∀(y:bI),nC x y→(y.ae=1∨y.ae=4∨y.ae=18∨y.ae=20)→bG (aP x).ai y.ae=true→(y.ae=1∨y.ae=4→cZ w (aP x).ch=true)→Inv (w.ay g y) ls∧bK w (w.ay g y):=fun y F h1 h2 h3=>
  I.IG hx hs hp ks F (by omega) h2 (fun h=>zu.1 (h3 h)) (fun h=>by omega) (fun h=>aX h hk)
 unfold jT cD Nc never cD fL;simp only[hx,bW,eN,ho,aE (by omega:¬(x.ops.length:Int)≤x.at_),hxC,km];by_cases h1:(aP x).ai=1∨(aP x).ai=7∨(aP x).ai=8
 ·rw[aF h1];refine⟨_,rfl,?_⟩;rw[cY];exact bt _ (nC.WH x 20 0 {case:= -1} w.av rfl (by omega)) (by simp) (by rcases h1 with h|h|h<;>rw[h]<;>simp[bG]) (fun h=>by simp at h)
 ·rw[aE h1];by_cases h2:(aP x).ai=2∨(aP x).ai=3
  ·rw[aF h2]
   cases hm:cZ w (aP x).ch with
   |true=>
    simp only[dt];refine⟨_,rfl,?_⟩;rw[cY];exact bt _ (nC.WH x 4 0 {case:= -1} w.av rfl (by omega)) (by simp) (by rcases h2 with h|h<;>rw[h]<;>simp[bG]) (fun _=>hm)
   |false=>
    simp only[nW,dF];refine⟨_,rfl,?_⟩;have Z:=I.Pm hx hs hp ks (nC.WH x 19 0 {case:= -1} w.av rfl (by omega)) rfl (by rcases h2 with h|h<;>rw[h]<;>simp[bG]);simp only[Wd.ay,my]at Z ⊢;exact Z
  ·rw[aE h2];by_cases h3:(aP x).ai=4∨(aP x).ai=5
   ·rw[aF h3]
    cases hm:cZ w (aP x).ch with
    |true=>
     simp only[dt];refine⟨_,rfl,?_⟩;rw[cY];exact bt _ (nC.WH x 1 0 {case:= -1} w.av rfl (by omega)) (by simp) (by rcases h3 with h|h<;>rw[h]<;>simp[bG]) (fun _=>hm)
    |false=>
     simp only[nW,dF];refine⟨_,rfl,?_⟩;rw[cY];exact bt _ (nC.WH x 18 w.av {aJ:=2,case:= -1} w.av rfl (by omega)) (by simp) (by rcases h3 with h|h<;>rw[h]<;>simp[bG]) (fun h=>by simp at h)
   ·rw[aE h3];have h6:(aP x).ai=6:=(by omega);rw[aF h6]
    cases hm:cZ w (aP x).ch with
    |true=>
     simp only[dt];refine⟨_,rfl,?_⟩;rw[cY];exact bt _ (nC.WH x 4 0 {case:= -1} w.av rfl (by omega)) (by simp) (by rw[h6];simp[bG]) (fun _=>hm)
    |false=>
     simp only[nW,dF];refine⟨_,rfl,?_⟩;rw[cY];exact bt _ (nC.WH x 18 w.av {aJ:=5,case:= -1} w.av rfl (by omega)) (by simp) (by rw[h6];simp[bG]) (fun h=>by simp at h)
theorem Tb(I:Inv w ls)(hx:w.gs[g]?=some x)(hs:ea w g)(hp:x.ae=20)(hk:(aP x).ai≠1):∃w',KZ w g=some w'∧Inv w' ls∧bK w w':=by
 have L:=I.loc g x hx;obtain⟨ho,hR⟩:=pj I hx (by omega);have aa4:=L.kp (by omega);rw[hp]at aa4
 have h78:(aP x).ai=1∨(aP x).ai=7∨(aP x).ai=8:=by
  have:((aP x).ai=1∨(aP x).ai=7)∨(aP x).ai=8:=by simpa[bG]using aa4
  omega
 have oz:(aP x).ai≠9:=by omega
 obtain⟨n,hn⟩:∃n,wQ w (aP x)=some n:=by
  unfold wQ
  cases hm:cZ w (aP x).ch with
  |false=>exact⟨_,rfl⟩
  |true=>
   obtain⟨_,r,hr,_⟩:=gz I (zu.1 hm);simp only[m8,dF,hr];exact⟨_,rfl⟩
 unfold KZ;simp only[ho,hx,bW,eN,aE hk,hn];rw[aF (by omega)];refine⟨_,rfl,?_⟩;obtain⟨m1,m2,m3⟩:=M.o20 L oz hp w.av {aJ:=1,case:= -1,ok:=true,n:=n} rfl;exact I.ku hx hs m1 ⟨by simp,by simp⟩ m2 m3 rfl
theorem F0(I:Inv w ls)(hx:w.gs[g]?=some x)(hs:ea w g)(hp:x.ae=18)(hd:w.done.length<1000000):∃w',mL w g=some w'∧Inv w' ls∧w'.gs.map (·.ops)=w.gs.map (·.ops)∧w'.av=w.av∧w'.list=w.list∧w'.drawn=w.drawn∧w'.done=w.done++[qu x g w.av]∧w'.au.length=w.au.length:=by
 have L:=I.loc g x hx;have:=L.JY;unfold mL;simp only[hx,bW,eN];have eK:kJ x.at_=true:=by unfold kJ;simp;omega
 rw[eK,aE (by decide),aE (by omega)];refine⟨_,rfl,I.SW hx hs hp rfl _,?_,rfl,rfl,rfl,rfl,rfl⟩;exact dW hx rfl
end
theorem F3{α β:Type}{f:α→Option β}{h:α→β}:∀l:List α,(∀a∈l,f a=some (h a))→l.mapM f=some (l.map h)
 | [],_=>by simp
 |a::l,H=>by rw[List.mapM_cons,H a (by simp),F3 l (fun b hb=>H b (by simp[hb]))];rfl
theorem sr(l:List Int):∀(n i:Nat) (d:Int),(gy l d i n).1.length=n
 |0,i,d=>rfl
 |n+1,i,d=>by simp only[gy,sV,sr l n]
theorem Cg(l:List Int):∀(n i:Nat) (d:Int),0≤d→d≤(gy l d i n).2∧((gy l d i n).2≤d∨(gy l d i n).2≤l.length)
 |0,i,d,_=>by simp[gy]
 |n+1,i,d,h0=>by
  have h1:d≤(gw l d ((i:Int)+1)).2∧((gw l d ((i:Int)+1)).2≤d∨(gw l d ((i:Int)+1)).2≤l.length):=by unfold gw;split<;>simp only<;>omega
  have h2:=Cg l n (i+1) (gw l d ((i:Int)+1)).2 (by omega);simp only[gy];omega
section
variable{w w' w2:Wd}{ls:List (List Nat)}{g z s:Nat}{x x' xA y:bI}{sd:gn}{o:cu}
theorem Mo(hR:Vz o)(ds:List Int)(hl:ds.length=o.cases.length):∃cs,kr w o ds=some cs∧(∀p∈cs,0≤p.1∧∃c,o.cases[p.1.toNat]?=some c∧p.2=c.ch∧1≤c.ch∧c.ch≤w.au.length)∧(cs.map (·.1)).Nodup∧cs.length≤6:=by
 have hP:=qO ds ds.length;have kL:∀i∈kB ds ds.length,0≤i∧∃c,o.cases[i.toNat]?=some c∧iF o i=some c:=fun i hi=>by obtain⟨j,hj,rfl⟩:=List.mem_map.1 (hP.mem_iff.1 hi);have hj:=List.mem_range.1 hj;obtain⟨c,hc⟩:∃c,o.cases[j]?=some c:=⟨_,fv (by omega)⟩;refine⟨by omega,c,by simpa using hc,?_⟩;have:=hR.cs c (lf hc);unfold iF idx;rw[aF (by omega)];simp only[oU,hc,bW,eN];rw[aF (by unfold kJ;simp;omega)]
 let H:Int→Int×Int:=fun i=>(i,((o.cases[i.toNat]?).map (·.ch)).getD 0)
 have hm:(kB ds ds.length).mapM (fun i=>(iF o i).map fun c=>(i,c.ch))=some ((kB ds ds.length).map H):=by
  refine F3 _ fun i hi=>?_
  obtain⟨_,c,h1,h2⟩:=kL i hi;simp[h2,H,h1]
 refine⟨((kB ds ds.length).map H).filter fun p=>cZ w p.2,?_,fun p hp=>?_,?_,?_⟩
 ·unfold kr;rw[hm];rfl
 ·obtain⟨h1,h2⟩:=List.mem_filter.1 hp;obtain⟨i,hi,rfl⟩:=List.mem_map.1 h1;obtain⟨h0,c,h3,h4⟩:=kL i hi;have e:(H i).2=c.ch:=by simp[H,h3]
  have Xt:=zu.1 h2;rw[e]at Xt;exact⟨h0,c,h3,e,Xt⟩
 ·have hs:((((kB ds ds.length).map H).filter fun p=>cZ w p.2).map (·.1)).Sublist (kB ds ds.length):=by
   have h1:=(List.filter_sublist (l:=(kB ds ds.length).map H) (p:=fun p=>cZ w p.2)).map (·.1);rw[List.map_map]at h1
   rwa [show((kB ds ds.length).map ((fun p:Int×Int=>p.1) ∘ H))=kB ds ds.length from by
    conv=>rhs;rw[←List.map_id (kB ds ds.length)]
    exact List.map_congr_left fun a _=>rfl]at h1
  exact hs.nodup (FZ ds _)
 ·refine jm (List.length_filter_le _ _) ?_;rw[ko,hP.length_eq,ko,List.length_range,hl];exact hR.cl
theorem PJ{C:Nat}{y:bI}{cs:List (Int×Int)}(h1:∀p∈cs,0≤p.1∧∃c,(aP y).cases[p.1.toNat]?=some c∧p.2=c.ch∧1≤c.ch∧c.ch≤C)(h2:(cs.map (·.1)).Nodup)(h3:cs.length≤6)(h4:cs≠[])(e1:y.aH=cs.map (·.1))(e2:y.aq=kf (cs.map (·.2))):gU C y:=by
 obtain⟨a,b⟩:=DH (cs.map (·.2));have kL:∀p∈cs,p.2∈y.aq:=fun p hp=>by obtain⟨_,c,_,e,h,_⟩:=h1 p hp;rw[e2];exact(b _).2 ⟨List.mem_map.2 ⟨p,hp,rfl⟩,by omega⟩
 refine⟨by rw[e1];simpa using h4,fun i hi=>?_,by rw[e1];exact h2,by rw[e1];simpa using h3,fun l hl=>?_,by rw[e2];exact a,?_⟩
 ·rw[e1]at hi;obtain⟨p,hp,rfl⟩:=List.mem_map.1 hi;obtain⟨h0,c,hc,e,h5,h6⟩:=h1 p hp;exact⟨h0,c,hc,h5,h6,e▸kL p hp⟩
 ·rw[e2]at hl;obtain⟨p,hp,rfl⟩:=List.mem_map.1 ((b l).1 hl).1;obtain⟨h0,c,hc,e,h5,h6⟩:=h1 p hp;rw[e];exact⟨h5,h6⟩
 ·obtain⟨p,cs',rfl⟩:=List.exists_cons_of_ne_nil h4;exact List.ne_nil_of_mem (kL p (by simp))
structure wE(w w':Wd):Prop where
 ops:w'.gs.map (·.ops)=w.gs.map (·.ops)
 av:w'.av=w.av
 list:w'.list=w.list
 drawn:w.drawn≤w'.drawn∧(w'.drawn≤w.drawn∨w'.drawn≤w.list.length)
 done:w'.done=w.done
 au:w.au.length≤w'.au.length
theorem I9(I:Inv w ls)(hx:w.gs[g]?=some x)(hs:ea w g)(hp:x.ae=0)(ks:x.at_<x.ops.length)(hk:(aP x).ai=9)(hd:0≤w.drawn)(Rp:kJ w.drawn=true):∃w',jT w g=some w'∧Inv w' ls∧wE w w':=by
 obtain⟨ho,hR⟩:=KC I hx ks;have hxC:(w.ay g {bu x with call:=w.av}).gs[g]?=some {bu x with call:=w.av}:=di (x:=x) _ hx;obtain⟨cs,fa,c1,c2,c3⟩:=Mo (w:=w.ay g {bu x with call:=w.av}) hR (gy w.list w.drawn 0 (aP x).cases.length).1 (sr _ _ _ _);have Et:=Cg w.list (aP x).cases.length 0 w.drawn hd;have gm:=hR.cl;have e:jT w g=gM (w.ay g {bu x with call:=w.av}) g (aP x):=by unfold jT;simp only[hx,bW,eN,ho,aE (by omega:¬(x.ops.length:Int)≤x.at_),hk];simp
 rw[e];unfold gM;have hdn:(w.ay g {bu x with call:=w.av}).drawn=w.drawn:=rfl;have hli:(w.ay g {bu x with call:=w.av}).list=w.list:=rfl;rw[hdn,hli,aE (by rw[Rp];simp;omega)];simp only[fa,hxC,bW,eN];have PK:∀y:bI,(w.gs.set g y)[g]?=some y:=fun y=>di (x:=x) y hx
 by_cases h:cs≠[]
 ·rw[aF h];simp only[cD,fL,Wd.ay,my,PK,km];refine⟨_,rfl,?_⟩;have F:nC x {bu x with call:=w.av,aH:=cs.map (·.1),aq:=kf (cs.map (·.2)),ae:=24}:=⟨rfl,rfl,rfl,rfl,rfl,rfl,rfl,fun _=>⟨rfl,rfl,rfl⟩,fun _=>⟨rfl,rfl,rfl⟩⟩;obtain⟨J,K⟩:=I.IG hx hs hp ks F (by simp) (by rw[hk];simp[bG]) (fun h=>by simp at h) (fun _=>PJ c1 c2 c3 h rfl rfl) (fun _ h=>by simp at h);simp only[Wd.ay,my]at J ⊢;exact⟨J.same rfl rfl rfl rfl rfl rfl rfl rfl,dW hx rfl,rfl,rfl,by simp only;omega,rfl,Nat.le_refl _⟩
 ·rw[aE h]
  cases XQ:(aP x).dG with
  |true=>
   simp only[dt];simp only[Nc,fL,Wd.ay,my,PK,km];refine⟨_,rfl,?_⟩;have F:nC x {bu x with call:=w.av,aH:=cs.map (·.1),aq:=kf (cs.map (·.2)),res:={aJ:=2,case:= -1},point:=w.av,ae:=18}:=⟨rfl,rfl,rfl,rfl,rfl,rfl,rfl,fun _=>⟨rfl,rfl,rfl⟩,fun h=>by simp at h⟩;obtain⟨J,K⟩:=I.IG hx hs hp ks F (by simp) (by rw[hk];simp[bG]) (fun h=>by simp at h) (fun h=>by simp at h) (fun _ _=> .inr (.inl ⟨rfl,XQ,rfl⟩));simp only[Wd.ay,my]at J ⊢;exact⟨J.same rfl rfl rfl rfl rfl rfl rfl rfl,dW hx rfl,rfl,rfl,by simp only;omega,rfl,Nat.le_refl _⟩
  |false=>
   simp only[nW,dF];simp only[never,cD,fL,Wd.ay,my,PK,km];refine⟨_,rfl,?_⟩;have F:nC x {bu x with call:=w.av,aH:=cs.map (·.1),aq:=kf (cs.map (·.2)),ae:=19}:=⟨rfl,rfl,rfl,rfl,rfl,rfl,rfl,fun _=>⟨rfl,rfl,rfl⟩,fun h=>by simp at h⟩;obtain⟨J,K⟩:=I.Pm hx hs hp ks F rfl (by rw[hk];simp[bG]);simp only[Wd.ay,my]at J ⊢;exact⟨J.same rfl rfl rfl rfl rfl rfl rfl rfl,dW hx rfl,rfl,rfl,by simp only;omega,rfl,Nat.le_refl _⟩
end
section
variable{w w' w2:Wd}{ls:List (List Nat)}{g z s C:Nat}{x x' xA y:bI}{sd:gn}{o:cu}
theorem gU.more(S:gU C x):gU (C+1) x:=
 ⟨S.ne,fun i hi=>by obtain⟨h0,c,h1,h2,h3,h4⟩:=S.ord i hi;exact⟨h0,c,h1,h2,by omega,h4⟩,S.nd,S.len,fun l hl=>by have:=S.lk l hl;omega,S.BD,S.Ei⟩
theorem cV.more(h:cV o C x):cV o (C+1) x:=by
 unfold cV at h ⊢;rcases h with⟨h1,h2,h3,c,h4,h5,h6,h7⟩|h
 ·exact .inl ⟨h1,h2,h3,c,h4,h5,by omega,h7⟩
 ·exact .inr h
theorem Loc.more(L:Loc C x):Loc (C+1) x:=
 {L with
  cZ:=fun h1 h2 h3 h4 h5=>by have:=L.cZ h1 h2 h3 h4 h5;omega
  oW:=fun h1 h2 h3 h4 h5=>by obtain⟨a,b,c⟩:=L.oW h1 h2 h3 h4 h5;exact⟨a.more,b,c⟩
  res:=fun h1 h2=>(L.res h1 h2).more}
theorem Tc(L:Loc C x){c:Int}(h:aL x c):1≤c∧c≤C:=by
 unfold aL at h;split at h
 ·rename_i hk;have h0:bC x≠0:=by intro e;rw[e]at h;simp at h
  have hp:x.ae≠0∧x.ae≠17∧x.ae≠18∧x.ae≠19:=by
   unfold bC at h0;split at h0
   ·omega
   ·split at h0
    ·omega
    ·exact aX rfl h0
  obtain⟨a,_,_⟩:=L.oW hk hp.1 hp.2.1 hp.2.2.1 hp.2.2.2;exact a.lk c (List.mem_of_mem_take h)
 ·rename_i hk;unfold cH at h;rw[h.2];exact L.cZ hk (by omega) (by omega) (by omega) (by omega)
theorem Inv.grow(I:Inv w ls)(h8:w.au.length<8){r:Ring}(hr:r.Ok)(b:Bool):Inv ({w with au:=w.au++[r],aO:=w.aO++[b],aq:=w.aq++[-1]}:Wd) ls:=by
 refine⟨I.n8,I.ax,by simp;omega,by simp[I.aO],by simp[I.aq],fun r' h=>?_,I.JZ,I.aS,I.bM,I.ar,I.q,fun g x hx=>by simp only[py,sV,List.length_nil];exact(I.loc g x hx).more,?_,I.cK,I.bY,I.bA,I.EJ,I.look,I.claim,I.pE,I.served,I.st,I.jn,I.pg,I.rf⟩
 ·rcases List.mem_append.1 h with h|h
  ·exact I.au r' h
  ·rw[List.mem_singleton.1 h];exact hr
 ·intro c h hc;by_cases dD:c<w.aq.length
  ·rw[Ev dD]at hc;exact I.lock c h hc
  ·rw[Ew (by omega)]at hc
   have Dj:c-w.aq.length=0:=by
    rcases Nat.eq_zero_or_pos (c-w.aq.length)with h0|h0
    ·exact h0
    ·rw[rq (by simp;omega)]at hc;cases hc
   rw[Dj]at hc;simp at hc;subst hc;refine⟨by omega,by omega,fun g x hx=>⟨fun hh=>?_,fun e=>by omega⟩⟩;have:=Tc (I.loc g x hx) hh;have:=I.aq;omega
theorem Td(I:Inv w ls)(hx:w.gs[g]?=some x)(hs:ea w g)(hp:x.ae=20)(hk:(aP x).ai=1):∃w',KZ w g=some w'∧Inv w' ls∧wE w w':=by
 have L:=I.loc g x hx;obtain⟨ho,hR⟩:=pj I hx (by omega);have hn:=hR.n;have oz:(aP x).ai≠9:=by omega
 unfold KZ makeChan;simp only[ho,hx,bW,eN,aF hk];by_cases h8:8≤w.au.length
 ·rw[aF h8];refine⟨_,rfl,?_⟩;obtain⟨m1,m2,m3⟩:=M.o20 L oz hp w.av {aJ:=7,case:= -1} rfl;obtain⟨J,K⟩:=I.ku hx hs m1 ⟨by simp,by simp⟩ m2 m3 rfl;exact⟨J,K.ops,K.av,K.list,by rw[K.drawn];omega,K.done,Nat.le_of_eq K.au.symm⟩
 ·rw[aE h8,aE (by omega)];refine⟨_,rfl,?_⟩;obtain⟨m1,m2,m3⟩:=M.o20 L oz hp w.av {aJ:=1,case:= -1,ok:=true,n:=w.au.length+1} rfl;obtain⟨J,K⟩:=I.ku hx hs m1 ⟨by simp,by simp⟩ m2 m3 rfl;have hl:w.au.length+1-w.aq.length=1:=by have:=I.aq;omega
  have hrk:Ring.Ok {places:=List.replicate (aP x).n.toNat 0}:=
   ⟨Int.le_refl 0,by simp only[vE,and_true];omega,Int.le_refl 0,by simp only[vE];omega,by simp only[vE];omega⟩
  have Z:=J.grow (r:={places:=List.replicate (aP x).n.toNat 0}) (by show w.au.length<8;omega) hrk false;rw[hl];simp only[List.replicate_one];exact⟨Z,K.ops,K.av,K.list,⟨Int.le_refl _,.inl (Int.le_refl _)⟩,K.done,by show w.au.length≤(w.au++[_]).length;simp⟩
theorem bK.d(K:bK w w'):wE w w':=⟨K.ops,K.av,K.list,by rw[K.drawn];omega,K.done,Nat.le_of_eq K.au.symm⟩
theorem WI(I:Inv w ls)(hx:w.gs[g]?=some x)(hs:ea w g)(hp:x.ae=20):∃w',KZ w g=some w'∧Inv w' ls∧wE w w':=by
 by_cases hk:(aP x).ai=1
 ·exact Td I hx hs hp hk
 ·obtain⟨w',h1,h2,h3⟩:=Tb I hx hs hp hk;exact⟨w',h1,h2,h3.d⟩
theorem Mp(I:Inv w ls)(hx:w.gs[g]?=some x)(hs:ea w g)(hp:x.ae=0)(hd:0≤w.drawn)(Rp:kJ w.drawn=true):∃w',jT w g=some w'∧Inv w' ls∧wE w w':=by
 by_cases ks:x.at_<x.ops.length
 ·by_cases hk:(aP x).ai=9
  ·exact I9 I hx hs hp ks hk hd Rp
  ·obtain⟨w',h1,h2,h3⟩:=I8 I hx hs hp ks hk;exact⟨w',h1,h2,h3.d⟩
 ·obtain⟨w',h1,h2,h3⟩:=PI I hx hs hp (by omega);exact⟨w',h1,h2,h3.d⟩
theorem nN{a:Option Wd}{w':Wd}(h:a=some w'):yes a=some (w',true):=by rw[h];rfl
theorem ud(I:Inv w ls)(hx:w.gs[g]?=some x)(hs:ea w g)(hk:2≤(aP x).ai∧(aP x).ai≤6)(hp:x.ae=4∨x.ae=12∨x.ae=13∨x.ae=15∨x.ae=16∨x.ae=17):∃w' fM,gH w g=some (w',true)∧Inv w' fM∧bK w w':=by
 have L:=I.loc g x hx;obtain⟨ho,hR⟩:=pj I hx (by omega);have pM:=L.kp (by omega)
 have e:gH w g=(if x.ae=4 then(Mach.lock w g ((aP x).ch-1)).map (·,true)
  else if x.ae=12 then some ((free w ((aP x).ch-1) g).ay g {x with ae:=13},true)
  else if x.ae=13 then some ({w.ay g {x with ae:=14}with ax:=(tD w.ax g).1},true)
  else if x.ae=15 then do
   let s ←nat? x.bY
   let _ ←w.ah[s]?
   some ((({w.cJ s {}with ar:=(w.ar.nh g x.bY).1}:Wd).ay g {x with bY:= -1,ae:=18}),true)
  else if x.ae=16 then(dk (free w ((aP x).ch-1) g) g).map (·,true)
  else if x.ae=17 then do
   let z ←x.wakes[0]?
   (dk (({w with ax:=(ready w.ax z).1}:Wd).ay g {x with wakes:=x.wakes.drop 1}) g).map (·,true)
  else some (w,false)):=by
  unfold gH;simp only[hx,ho,bW,eN]
 rw[e];clear e;rcases hp with h|h|h|h|h|h
 ·rw[aF h];obtain⟨w',a,b,c⟩:=OY I hx hs hk h;exact⟨w',ls,by rw[a];rfl,b,c⟩
 ·rw[aE (by omega),aF h];have jO:(aP x).ai=2∨(aP x).ai=3:=by rw[h]at pM;simpa[bG]using pM
  obtain⟨b,c⟩:=Fw I hx hs jO h;exact⟨_,ls,rfl,b,c⟩
 ·rw[aE (by omega),aE (by omega),aF h];have jO:((aP x).ai=2∨(aP x).ai=3)∨(aP x).ai=9:=by rw[h]at pM;simpa[bG]using pM
  obtain⟨b,c⟩:=Fy I hx hs (by omega) h;exact⟨_,ls,rfl,b,c⟩
 ·rw[aE (by omega),aE (by omega),aE (by omega),aF h];have jO:(aP x).ai=2∨(aP x).ai=3:=by rw[h]at pM;simpa[bG]using pM
  obtain⟨s,sd,h1,h2,b,c⟩:=LZ I hx hs jO h;refine⟨_,ls,?_,b,c⟩;have hn:nat? x.bY=some s:=by unfold nat?;rw[aF (by omega)];simp[h1]
  simp only[hn,h2,bW,eN]
 ·rw[aE (by omega),aE (by omega),aE (by omega),aE (by omega),aF h];obtain⟨w',a,b,c⟩:=ID I hx hs hk h;exact⟨w',ls,by rw[a];rfl,b,c⟩
 ·rw[aE (by omega),aE (by omega),aE (by omega),aE (by omega),aE (by omega),aF h];obtain⟨z,w',h1,a,b,c⟩:=Cb I hx hs (.inl hk) h;exact⟨w',ls,by simp only[h1,bW,eN];rw[a];rfl,b,c⟩
theorem zw(I:Inv w ls)(hx:w.gs[g]?=some x)(hs:ea w g)(hk:(aP x).ai=9)(h0:x.ae≠0∧x.ae≠18∧x.ae≠19∧x.ae≠20):∃w' fM,hO w g=some (w',true)∧Inv w' fM∧bK w w':=by
 have L:=I.loc g x hx;obtain⟨ho,hR⟩:=pj I hx h0.1;have pM:=L.kp h0.1;have kM:=L.pl;have fin:∀{a:Option Wd},(∃w',a=some w'∧Inv w' ls∧bK w w')→∃w' fM,yes a=some (w',true)∧Inv w' fM∧bK w w':=fun⟨w',a,b,c⟩=>⟨w',ls,nN a,b,c⟩
 have r7:∀{a:Option Wd},(∃w' fM,a=some w'∧Inv w' fM∧bK w w')→∃w' fM,yes a=some (w',true)∧Inv w' fM∧bK w w':=fun⟨w',fM,a,b,c⟩=>⟨w',fM,nN a,b,c⟩
 have uY:x.ae=13∨x.ae=17∨x.ae=24∨x.ae=25∨x.ae=26∨x.ae=27∨x.ae=28∨x.ae=29∨x.ae=30∨x.ae=14∨x.ae=31∨x.ae=32∨x.ae=33∨x.ae=34:=by
  rw[hk]at pM;by_cases hh:13≤x.ae
  ·by_cases UW:x.ae=15∨x.ae=16∨x.ae=21∨x.ae=22∨x.ae=23
   ·exfalso;rcases UW with h|h|h|h|h<;>rw[h]at pM<;>simp[bG]at pM
   ·omega
  ·exfalso;have:x.ae=1∨x.ae=2∨x.ae=3∨x.ae=4∨x.ae=5∨x.ae=6∨x.ae=7∨x.ae=8∨x.ae=9∨x.ae=10∨x.ae=11∨x.ae=12:=by omega
   rcases this with h|h|h|h|h|h|h|h|h|h|h|h<;>rw[h]at pM<;>simp[bG]at pM
 unfold hO;simp only[ho,hx,bW,eN];rw[aE (by omega)];rcases uY with h|h|h|h|h|h|h|h|h|h|h|h|h|h
 ·rw[aF (by omega)];obtain⟨b,c⟩:=Fy I hx hs (by omega) h;refine⟨_,ls,?_,b,c⟩;unfold gH;simp only[hx,ho,bW,eN];rw[aE (by omega),aE (by omega),aF h]
 ·rw[aF (by omega)];obtain⟨z,w',h1,a,b,c⟩:=Cb I hx hs (.inr hk) h;refine⟨w',ls,?_,b,c⟩;unfold gH;simp only[hx,ho,bW,eN];rw[aE (by omega),aE (by omega),aE (by omega),aE (by omega),aE (by omega),aF h];simp only[h1,eN];rw[a];rfl
 all_goals rw[aE (by omega)]
 ·rw[aF h];exact fin (uX I hx hs hk 25 (.inl ⟨h,rfl⟩))
 all_goals rw[aE (by omega)]
 ·rw[aF h];exact r7 (PG I hx hs hk h)
 all_goals rw[aE (by omega)]
 ·rw[aF h];exact r7 (Mm I hx hs hk h)
 all_goals rw[aE (by omega)]
 ·rw[aF h];exact r7 (DE I hx hs hk h)
 all_goals rw[aE (by omega)]
 ·rw[aF h];exact fin (Bc I hx hs hk h)
 all_goals rw[aE (by omega)]
 ·rw[aF h];exact r7 (zp I hx hs hk h)
 all_goals rw[aE (by omega)]
 ·rw[aF h];exact fin (Du I hx hs hk h)
 all_goals rw[aE (by omega)]
 ·rw[aF h];exact fin (LY I hx hs hk h)
 all_goals rw[aE (by omega)]
 ·rw[aF h];exact fin (uX I hx hs hk 32 (.inr ⟨h,rfl⟩))
 all_goals rw[aE (by omega)]
 ·rw[aF h];exact r7 (PE I hx hs hk h)
 all_goals rw[aE (by omega)]
 ·rw[aF h];obtain⟨w1,f,e,⟨rfl,b,c⟩|⟨rfl,w',e2,b,c⟩⟩:=Dw I hx hs hk h
  ·simp only[e,eN,nW,dF];exact⟨w1,ls,rfl,b,c⟩
  ·simp only[e,eN,dt];exact⟨w',ls,nN e2,b,c⟩
 ·rw[aE (by omega),aF h];exact fin (DC I hx hs hk h)
end
end Go.Proofs.YtadifmnmfnihdaaGreat.V
namespace Go.Proofs.YtadifmnmfnihdaaGreat
open Go.RowKit Mach Go.Proofs.Tryz
theorem zx(l l':List (Int×Bool))(i:Nat):eY i (l++l')=eY i l++eY (i+l.length) l':=by
 induction l generalizing i with
 |nil=>simp[eY]
 |cons x l ih=>
  obtain⟨st,tk⟩:=x;simp only[sY,eY,ih,sV];rw[show i+1+l.length=i+(l.length+1)by omega];split<;>simp
theorem DJ{b:List (Int×Bool)}{k:Nat}{st:Int}{tk:Bool}(h:b[k]?=some (st,tk)):eY 0 (b.take (k+1))=if st=0 then eY 0 (b.take k)++[(k:Int)]else eY 0 (b.take k):=by
 have hk:=cA h;rw[List.take_succ,h,zx];simp only[Option.toList_some,eY,tC,Nat.zero_add];rw[Nat.min_eq_left (by omega)];split<;>simp
theorem xg(b:List (Int×Bool))(i:Nat):(eY i b).length≤b.length:=by
 induction b generalizing i with
 |nil=>simp[eY]
 |cons x l ih=>
  obtain⟨st,tk⟩:=x;simp only[eY];have:=ih (i+1);split<;>simp<;>omega
structure WJ(H:Nat)(w:World)(b:List (Int×Bool))(k n:Nat)(v:Value)(wr:World):Prop where
 own:wr.ownsRow H 3 1 v n ((eY 0 (b.take k)).map I)
 len:n=(eY 0 (b.take k)).length
 below:Below H w wr
section
variable{af:Nat}{F:Fx}{w w0 w':World}{m m0 m':Mem}{S S':Wd}{L:List (Nat×Obj)}
theorem DK(R:bz af F w m S)(hb:S.ax.length≤1000):Calls prog 59 #[.pointer (some ⟨F.dB,0,none⟩)] w (vH w (cE S.ax)):=by
 obtain⟨i0,hi,fV,gF,gG⟩:=info_parts lC;have c0:=R.Bu;have ES:=ag (fun(j:Nat) (st:Int) (tk:Bool) (h:S.ax[j]?=some (st,tk))=>R.one h);have dD:=R.lt R.aB.ax;obtain⟨n,hn⟩:=dC (S.ax.length);have HN:=ag hn;rw[←hn]at c0 hb;clear R hn;go_enter func59,ntmps59;go_wp2;go_loopw [3,4,5,11] (fun v _ _ i wr=>∃(k q:Nat) (vv:Value),vv=v∧i=.int .i64 k∧k≤n∧q≤k∧Hid (WJ w.heap.size w S.ax k q vv wr)) (fun _ _ _ i _=>n-(intOf i).toNat)
 case atStart=>exact⟨0,0,_,rfl,rfl,by omega,by omega,⟨World.ownsRow_nil _ _ _ _,rfl,fp _ _⟩⟩
 case round=>
  obtain⟨k,q,vv,rfl,rfl,hk,hq,HP⟩:=hrel;by_cases hl:k<n
  ·obtain⟨⟨st,tk⟩,hx⟩:∃x,S.ax[k]?=some x:=⟨_,fv (by rw[←HN.out];exact hl)⟩;obtain⟨e0,e1⟩:=ES.out k st tk hx;have e0:wr.cell? ⟨F.ax,k*2,none⟩=some (I st):=by rw[HP.out.below.cell (p:=⟨F.ax,k*2,none⟩) dD];exact e0
   have e1:wr.cell? ⟨F.ax,k*2+1,none⟩=some (B tk):=(by rw[HP.out.below.cell (p:=⟨F.ax,k*2+1,none⟩) dD];exact e1);have hsz:=HP.out.below.size;have HT:=ag (DJ hx);clear hx;by_cases h0:st=0
   ·subst h0
    obtain⟨va,vc,rfl⟩:∃va vc,vv=.slice va q vc:=by
     rcases HP.out.own.2 with⟨h1,h2⟩|⟨g,cap,cur,h1,_⟩
     ·exact⟨none,0,by rw[h1,h2]⟩
     ·exact⟨_,_,h1⟩
    go_wp2_with (at_builtin;go_loud (refine wpList_append_own _ rfl (.tmp 19) (.tmp 21) 28 rfl w.heap.size 3 i0 (.int .i64 0) 1 8 underlying28 hi fV gF gG rfl (by decide) _ _ _ rfl ((HP.out.own.alloc _).alloc _) ⟨wr.heap.size+1,0,none⟩ 1 1 [.int .i64 k] rfl rfl ?_ (by intro u hu;simp at hu;subst hu;rfl) (by unfold maxLen;omega) (by omega) (by simp;omega) ?_));intro v' w2 fu jV E4
    have En:Hid (WJ w.heap.size w S.ax (k+1) (q+1) v' w2):=by
     have e:eY 0 (S.ax.take (k+1))=eY 0 (S.ax.take k)++[(k:Int)]:=(by rw[HT.out];simp);refine⟨?_,by rw[e,py,←HP.out.len];rfl,((HP.out.below.alloc hsz _).alloc (by simp;omega) _).grown jV (by simp;omega) ?_⟩
     ·rw[e,List.map_append];exact fu
     ·intro r hr;rcases HP.out.own.2 with⟨h1,h2⟩|⟨g,cap,cur,h1,h3,_⟩
      ·simp at h1;rw[h1.1]at hr;cases hr
      ·simp at h1;rw[h1.1]at hr;simp[Value.ownBlock]at hr;omega
    obtain⟨va2,vc2,rfl⟩:∃va2 vc2,v'=.slice va2 (q+1) vc2:=by
     rcases fu.2 with⟨h1,h2⟩|⟨g,cap,cur,h1,_⟩
     ·exact aX h1 E4
     ·exact⟨_,_,h1⟩
    clear fu jV E4;go_wp2;go_roundw
    case rel=>exact⟨k+1,q+1,_,rfl,by go_num,by omega,by omega,En⟩
    case measure=>simp[intOf];omega
   ·have gq:(st==0)=false:=(by simpa using h0);have Xx:=HT.out;rw[aE h0]at Xx;have HP':Hid (WJ w.heap.size w S.ax (k+1) q vv (wr.alloc (.cells #[I st,B tk] 154))):=⟨by rw[Xx];exact HP.out.own.alloc _,by rw[Xx];exact HP.out.len,HP.out.below.alloc hsz _⟩;clear Xx h0;go_wp2;go_roundw
    case rel=>exact⟨k+1,q,_,rfl,by go_num,by omega,by omega,HP'⟩
    case measure=>simp[intOf];omega
  ·obtain rfl:k=n:=by omega
   go_wp2;go_ret;have hh:=HP.out.own;have pJ:=HP.out.len;rw[yl (by rw[←HN.out];exact Nat.le_refl _)]at hh pJ;refine⟨_,rfl,?_,HP.out.below⟩;unfold yv;rw[show cE S.ax=eY 0 S.ax from rfl,←pJ];exact hh
end
end Go.Proofs.YtadifmnmfnihdaaGreat
namespace Go.Proofs.YtadifmnmfnihdaaGreat
open Go.RowKit Mach
section
variable{af b j:Nat}{F:Fx}{w w' w0:World}{m m0:Mem}{S S':Wd}{r:bH}{v:Value}
theorem At.aa5(A:At af F m0 w0 m w S){c:Nat}{arr:Array Value}{t:TypeId}(hl:r.loose=true)(nI:eI r=none)(h0:aj m S r=[])(hb:w.heap[b]?=some (.cells arr t (0,0)))(hbase:af≤b)(hn:∀r',m.aV r'≠some b)(Mi:w0.heap.size≤b)(hc:∀r',aj (m.eG r (some b) c) S r'=aj m S r'):At af F m0 w0 (m.eG r (some b) c) w S:=by
 refine⟨⟨A.mv.os,A.mv.tape,A.mv.output,A.mv.size,A.mv.keep,fun r' b' ff=>?_⟩,⟨fun r1 r2 b' h1 h2=>?_,fun r' b' ff=>?_,fun r' hT=>?_,A.bj.aB.eG hl _ _⟩⟩
 ·by_cases e:r'=r
  ·subst e;rw[Mem.dL]at ff;cases ff;exact .inr Mi
  ·rw[Mem.bN _ _ _ e]at ff;exact A.mv.old _ _ ff
 ·by_cases e1:r1=r<;>by_cases e2:r2=r
  ·rw[e1,e2]
  ·subst e1;rw[Mem.dL]at h1;rw[Mem.bN _ _ _ e2]at h2
   cases h1;exact aX h2 (hn r2)
  ·subst e2;rw[Mem.dL]at h2;rw[Mem.bN _ _ _ e1]at h1
   cases h2;exact aX h1 (hn r1)
  ·rw[Mem.bN _ _ _ e1]at h1;rw[Mem.bN _ _ _ e2]at h2;exact A.bj.inj r1 r2 b' h1 h2
 ·rw[hc];by_cases e:r'=r
  ·subst e;rw[Mem.dL]at ff
   cases ff;rw[Mem.xM,h0,nI];exact⟨hbase,arr,t,hb,by simp,by simp,fun p hp=>by cases hp⟩
  ·rw[Mem.bN _ _ _ e]at ff;rw[Mem.rH _ _ _ e];exact A.bj.lies r' b' ff
 ·rw[hc];by_cases e:r'=r
  ·subst e;exact h0
  ·rw[Mem.bN _ _ _ e]at hT;exact A.bj.none_ r' hT
theorem At.ar7(A:At af F m0 w0 m w S)(hl:r.loose=true){rp:bH}{bp c g n:Nat}{p:Nat×Nat}{xs:List Value}(nI:∀q,eI r=some q→q=p)(hp:m.aV rp=some bp)(cM:rp≠r)(hg:w.grownBy w' (m.aV r))(hown:w'.ownsRow af p.1 p.2 (.slice (some ⟨g,0,none⟩) n c) n xs)(bE:m.aV r=some g∨w.heap.size≤g)(jM:aj (m.eG r (some g) c) S' r=xs)(oE:aj (m.eG r (some g) c) S' rp=(aj m S rp).set j (.slice (some ⟨g,0,none⟩) n c))(ho:∀r',r'≠r→r'≠rp→aj (m.eG r (some g) c) S' r'=aj m S r'∨(m.aV r'≠none∧∀b',m.aV r'=some b'→gl w b' (eI r') (m.cap r') (aj (m.eG r (some g) c) S' r'))):At af F m0 w0 (m.eG r (some g) c) (w'.setCell ⟨bp,j,none⟩ (.slice (some ⟨g,0,none⟩) n c)) S':=by
 have qw:∀r' b',r'≠r→m.aV r'=some b'→b'≠g:=by
  intro r' b' h1 h2 e;subst e;rcases bE with h|h
  ·exact h1 (A.bj.inj r' r _ h2 h)
  ·exact aX (A.bj.lt h2) (by omega)
 have rI:∀r' b',r'≠r→m.aV r'=some b'→w'.heap[b']?=w.heap[b']?:=fun r' b' h1 h2=>hg.block b' (A.bj.lt h2) (fun e=>h1 (A.bj.inj r' r _ h2 e.symm))
 obtain⟨yp,rJ⟩:=gl.kg (ty:=eI r) nI hown
 have Yv:pe m w (m.eG r (some g) c) w':=by
  refine⟨hg.os,hg.tape,hg.output,hg.size,fun b hb hn=>hg.block b hb (fun e=>hn r e.symm),fun r' b hb=>?_⟩
  ·by_cases e:r'=r
   ·subst e;rw[Mem.dL]at hb;cases hb;rcases bE with h|h
    ·exact .inl ⟨_,h⟩
    ·exact .inr h
   ·rw[Mem.bN _ _ _ e]at hb;exact .inl ⟨_,hb⟩
 refine⟨(A.mv.trans Yv).setCell (r:=rp) (by rw[Mem.bN _ _ _ cM];exact hp) _,?_⟩;refine⟨fun r1 r2 b' h1 h2=>?_,fun r' b' ff=>?_,fun r' hT=>?_,A.bj.aB.eG hl _ _⟩
 ·by_cases e1:r1=r<;>by_cases e2:r2=r
  ·rw[e1,e2]
  ·subst e1;rw[Mem.dL]at h1;rw[Mem.bN _ _ _ e2]at h2
   cases h1;exact aX rfl (qw r2 _ e2 h2)
  ·subst e2;rw[Mem.dL]at h2;rw[Mem.bN _ _ _ e1]at h1
   cases h2;exact aX rfl (qw r1 _ e1 h1)
  ·rw[Mem.bN _ _ _ e1]at h1;rw[Mem.bN _ _ _ e2]at h2;exact A.bj.inj r1 r2 b' h1 h2
 ·by_cases e1:r'=r
  ·subst e1;rw[Mem.dL]at ff
   cases ff;rw[Mem.xM,jM];exact⟨yp,rJ.other (fQ _ _ _ _ (dE (qw rp bp cM hp)))⟩
  ·rw[Mem.bN _ _ _ e1]at ff;rw[Mem.rH _ _ _ e1];by_cases e2:r'=rp
   ·subst e2;obtain rfl:b'=bp:=by rw[hp]at ff;exact(mx ff).symm
    rw[oE];exact⟨(A.bj.lies _ _ hp).1,((A.bj.lies _ _ hp).2.other (rI _ _ e1 hp)).set j _⟩
   ·rcases ho r' e1 e2 with h|h
    ·rw[h];refine⟨(A.bj.lies _ _ ff).1,((A.bj.lies _ _ ff).2.other (rI _ _ e1 ff)).other (fQ _ _ _ _ (A.bj.ne ff hp e2))⟩
    ·exact⟨(A.bj.lies _ _ ff).1,((h.2 b' ff).other (rI _ _ e1 ff)).other (fQ _ _ _ _ (A.bj.ne ff hp e2))⟩
 ·have e1:r'≠r:=fun e=>by rw[e,Mem.dL]at hT;cases hT
  have e2:r'≠rp:=fun e=>by rw[Mem.bN _ _ _ e1,e,hp]at hT;cases hT
  rw[Mem.bN _ _ _ e1]at hT;rcases ho r' e1 e2 with h|h
  ·rw[h];exact A.bj.none_ r' hT
  ·exact aX hT h.1
theorem wF{o:Option Nat}{c k:Nat}(hk:S.au.length≤k):∀r',aj (m.eG (.eU k) o c) S r'=aj m S r':=by
 intro r';have hu:∀r,r≠bH.eU k→∀n,(m.eG (.eU k) o c).cU r n=m.cU r n:=fun r hr n=>Mem.qv m o c n hr
 have hp:∀r,r≠bH.eU k→(m.eG (.eU k) o c).ptr r=m.ptr r:=fun r hr=>Mem.sL m o c hr
 cases r' with
 |au=>
  simp only[aj];apply List.map_congr_left;intro i hi;rw[List.mem_range]at hi;exact hp _ (by simp;omega)
 |_=>first
  |rfl
  |(simp only[aj,gk,Cu,je,hp _ (show _≠bH.eU k by simp),hu _ (show _≠bH.eU k by simp),ne_eq,reduceCtorEq,not_false_eq_true];done)
theorem ue{o:Option Nat}{c k:Nat}(hk:S.au.length≤k):∀r',aj (m.eG (.places k) o c) S r'=aj m S r':=by
 intro r';have hu:∀r,r≠bH.places k→∀n,(m.eG (.places k) o c).cU r n=m.cU r n:=fun r hr n=>Mem.qv m o c n hr
 have hp:∀r,r≠bH.places k→(m.eG (.places k) o c).ptr r=m.ptr r:=fun r hr=>Mem.sL m o c hr
 cases r' with
 |eU i=>
  simp only[aj]
  cases h:S.au[i]? with
  |none=>rfl
  |some r=>
   have:=cA h;simp only[hu (.places i) (by simp;omega)]
 |_=>first
  |rfl
  |(simp only[aj,gk,Cu,je,hp _ (show _≠bH.places k by simp),hu _ (show _≠bH.places k by simp),ne_eq,reduceCtorEq,not_false_eq_true];done)
end
end Go.Proofs.YtadifmnmfnihdaaGreat
namespace Go.Proofs.YtadifmnmfnihdaaGreat
open Go.RowKit Mach Go.Proofs.Tryz
theorem xh(p:List (List cu))(n:Nat)(hn:n=p.length)(a:Option Addr)(ca:Nat)(w:World)(h1:eW w a p)(hp:im p=true):Calls prog 77 #[.slice a n ca] w (oV (Below w.heap.size w)):=by
 unfold im at hp;simp only[qs,decide_eq_true_eq,List.all_eq_true]at hp;obtain⟨⟨U8,XR⟩,U3⟩:=hp;rw[←hn]at XR U3;have HPP:Hid (∀l∈p,(∀o∈l,yF o=true)∧l.length≤16):=U8;have Hn:=ag hn;clear hn U8;have H1:=ag h1;clear h1;go_enter func77,ntmps77;go_wp2;go_loopw [17] (fun i wr=>∃j:Nat,i=.int .i64 j∧j≤n∧Hid (Below w.heap.size w wr)) (fun i _=>n-(intOf i).toNat)
 case atStart=>exact⟨0,rfl,by omega,fp _ _⟩
 case round=>
  obtain⟨j,rfl,hj,HB⟩:=hrel;by_cases dD:j<n
  ·obtain⟨os,No⟩:∃os,p[j]?=some os:=⟨_,fv (by rw[←Hn.out];exact dD)⟩;obtain⟨b1,o1,r1,c1,rfl,oF,rS⟩:=H1.out.2 j os No;have oF:=cw HB.out cG _ _ oF;obtain⟨m,hm⟩:=dC (os.length);rw[←hm]at oF;have VF:m≤16:=by rw[hm];exact(HPP.out os (lf No)).2
   have HG:Hid (∀o∈os,IV o):=fun o ho=>WE ((HPP.out os (lf No)).1 o ho)
   obtain⟨HO,HM⟩:=dA rS hm;have BK:=HB;clear rS hm No;go_wp2;go_loopw [26] (fun i VC=>∃k:Nat,i=.int .i64 k∧k≤m∧Hid (Below w.heap.size w VC)) (fun i _=>m-(intOf i).toNat)
   case atStart=>exact⟨0,rfl,by omega,BK⟩
   case round=>
    clear HB BK oF;obtain⟨k,rfl,hk,HB⟩:=hrel;by_cases rT:k<m
    ·obtain⟨o,ho⟩:∃o,os[k]?=some o:=⟨_,fv (by rw[←HM.out];exact rT)⟩;obtain⟨b2,o2,x,cx,rfl,e0,e1,e2,e3,e4,e5,fa,_⟩:=(HO.out.below HB.out cG).2 k o ho;have HOG:=ag (HG.out o (lf ho));have hs:=HB.out.size;have HW:Hid (∀ob,Calls prog 135 #[.agg #[I o.ai,I o.ch,I o.n,I o.v,.slice x o.cases.length cx,B o.dG]] (wr.alloc ob) fun e w'=>e=.returned (.bool true)∧Below w.heap.size w w'):=fun ob=>by have G5:=(fp wr.heap.size wr).alloc cG ob;refine(Ba o HOG.out x cx (wr.alloc ob) (fa.below G5 cG)).mono ?_;rintro e w' ⟨he,hb⟩;exact⟨he,(HB.out.trans (G5.mono hs)).trans (hb.mono (by simp;omega))⟩
     obtain⟨ok,oc,on,ov,ocs,oe⟩:=o;simp only at e0 e1 e2 e3 e4 e5 HW;obtain⟨q,hq⟩:=dC (ocs.length);rw[←hq]at e4 HW;clear fa ho HOG hq;go_wp2_with (go_at_call 135;refine(HW.out _).mono ?_;rintro e w2 ⟨rfl,hb⟩;have mq:=ag hb;clear hb);go_roundw
     case rel=>exact⟨k+1,by go_num,by omega,mq⟩
     case measure=>simp[intOf];omega
    ·obtain rfl:k=m:=by omega
     go_wp2;go_roundw
     case rel=>exact⟨j+1,by go_num,by omega,HB⟩
     case measure=>simp[intOf];omega
  ·obtain rfl:j=n:=by omega
   go_wp2;go_ret;exact⟨rfl,HB.out⟩
end Go.Proofs.YtadifmnmfnihdaaGreat
namespace Go.Proofs.YtadifmnmfnihdaaGreat
open Go.RowKit Mach
def eF(lo:Nat)(w0 w:World)(f:bH→Option oJ):Prop:=cN lo w0 w (fun k=>(f k).bind (·.1)) eI (fun k=>((f k).map (·.2.1)).getD 0) (fun k=>((f k).map (·.2.2)).getD [])
section
variable{lo:Nat}{w0 w w':World}{f:bH→Option oJ}
theorem DL{β:Type}(g:Option oJ→β)(f:bH→Option oJ)(r:bH)(e:Option oJ)(x:β)(h:g e=x):(fun k=>g (up f r e k))=up (fun k=>g (f k)) r x:=by
 funext k;by_cases hk:k=r
 ·subst hk;rw[bq,bq,h]
 ·rw[aD _ _ hk,aD _ _ hk]
theorem eF.PL{r:bH}{b cp:Nat}{xs:List Value}(h:cN lo w0 w (up (fun k=>(f k).bind (·.1)) r (some b)) eI (up (fun k=>((f k).map (·.2.1)).getD 0) r cp) (up (fun k=>((f k).map (·.2.2)).getD []) r xs)):eF lo w0 w (up f r (some (some b,cp,xs))):=by
 unfold eF;rw[DL (fun e=>e.bind (·.1)) f r _ (some b) rfl,DL (fun e=>(e.map (·.2.1)).getD 0) f r _ cp rfl,DL (fun e=>(e.map (·.2.2)).getD []) f r _ xs rfl];exact h
theorem eF.congr(H:eF lo w0 w f){f':bH→Option oJ}(h:∀k,f' k=f k):eF lo w0 w f':=by
 have:f'=f:=funext h;subst this;exact H
theorem eF.eC(H:eF lo w0 w f)(hb:Below w.heap.size w w'):eF lo w0 w' f:=cN.eC H hb
theorem eF.drew(H:eF lo w0 w f):eF lo w0 w.drew f:=cN.drew H
theorem eF.alloc(H:eF lo w0 w f)(o:Obj):eF lo w0 (w.alloc o) f:=cN.alloc H o
theorem eF.uw(H:eF lo w0 w f):Below lo w0 w∧lo≤w.heap.size:=⟨cN.below H,cN.tL H⟩
theorem eF.cell(H:eF lo w0 w f){r:bH}{b cp j:Nat}{xs:List Value}(h:f r=some (some b,cp,xs)){v:Value}(hv:xs[j]?=some v):w.cell? ⟨b,j,none⟩=some v:=
 cN.cell H (k:=r) (by simp only[h];rfl) (by simp only[h];exact hv)
theorem eF.frozen(H:eF lo w0 w f){r:bH}{b cp:Nat}{xs:List Value}(h:f r=some (some b,cp,xs))(j:Nat):w.frozen? ⟨b,j,none⟩=false:=
 cN.frozen H (k:=r) (by simp only[h];rfl) j
theorem eF.lt(H:eF lo w0 w f){r:bH}{b cp:Nat}{xs:List Value}(h:f r=some (some b,cp,xs)):lo≤b∧b<w.heap.size:=
 ⟨(cN.lies H r b (by simp only[h];rfl)).1,cN.lt H (k:=r) (by simp only[h];rfl)⟩
theorem eF.set(H:eF lo w0 w f){r:bH}{b cp j:Nat}{xs:List Value}{v:Value}(h:f r=some (some b,cp,xs)):eF lo w0 (w.setCell ⟨b,j,none⟩ v) (up f r (some (some b,cp,xs.set j v))):=by
 have O:=cN.set H (r:=r) (b:=b) (j:=j) (v:=v) (by simp only[h];rfl);simp only[h,km,Option.getD_some]at O;unfold eF;rw[DL (fun e=>(e.map (·.2.2)).getD []) f r _ (xs.set j v) rfl]
 have e1:(fun k=>((up f r (some (some b,cp,xs.set j v)) k).bind (·.1)))=fun k=>(f k).bind (·.1):=by
  funext k;by_cases hk:k=r
  ·subst hk;rw[bq,h];rfl
  ·rw[aD _ _ hk]
 have e2:(fun k=>((up f r (some (some b,cp,xs.set j v)) k).map (·.2.1)).getD 0)=fun k=>((f k).map (·.2.1)).getD 0:=by
  funext k;by_cases hk:k=r
  ·subst hk;rw[bq,h];rfl
  ·rw[aD _ _ hk]
 rw[e1,e2];exact O
theorem eF.same(H:eF lo w0 w f){r:bH}{b cp j:Nat}{xs:List Value}{v:Value}(h:f r=some (some b,cp,xs))(hv:xs[j]?=some v):eF lo w0 (w.setCell ⟨b,j,none⟩ v) f:=by
 refine(H.set (v:=v) (j:=j) h).congr fun k=>?_
 by_cases hk:k=r
 ·subst hk;rw[bq,h];obtain⟨h1,h2⟩:=uC hv;rw[←h2,List.set_getElem_self h1]
 ·rw[aD _ _ hk]
theorem eF.add(H:eF lo w0 w f){r:bH}{b cp:Nat}{xs:List Value}(hb:Below w.heap.size w w')(h0:w.heap.size≤b)(hl:gl w' b (eI r) cp xs):eF lo w0 w' (up f r (some (some b,cp,xs))):=eF.PL (cN.add H hb h0 hl)
theorem eF.put(H:eF lo w0 w f){r:bH}{b cp:Nat}{xs:List Value}(h0:lo≤b)(cM:∀k c q ys,f k=some (some c,q,ys)→c≠b)(hl:gl w b (eI r) cp xs):eF lo w0 w (up f r (some (some b,cp,xs))):=by
 refine eF.PL (cN.put H h0 (fun k b' hk=>?_) hl)
 cases hf:f k with
 |none=>rw[hf]at hk;cases hk
 |some e=>
  obtain⟨eb,q,ys⟩:=e;rw[hf]at hk;have hk:eb=some b':=hk;subst hk;exact cM k b' q ys hf
theorem eF.row(H:eF lo w0 w f){r:bH}{p:Nat×Nat}{g n cp:Nat}{xs:List Value}(nI:∀q,eI r=some q→q=p)(hg:w.grownBy w' ((f r).bind (·.1)))(hown:w'.ownsRow lo p.1 p.2 (.slice (some ⟨g,0,none⟩) n cp) n xs)(bE:(f r).bind (·.1)=some g∨w.heap.size≤g):eF lo w0 w' (up f r (some (some g,cp,xs))):=eF.PL (cN.row H nI hg hown bE)
theorem eF.aa6(H:eF lo w0 w f){r1 r2 r3:bH}{b1 b2 b3 q1 q2 q3:Nat}{x1 x2 x3:List Value}(A:eh w.heap.size w w' [(r1,some b1,q1,x1),(r2,some b2,q2,x2),(r3,some b3,q3,x3)]):eF lo w0 w' (up (up (up f r1 (some (some b1,q1,x1))) r2 (some (some b2,q2,x2))) r3 (some (some b3,q3,x3))):=by
 have l1:=A.lies (r1,some b1,q1,x1) (by simp) b1 rfl;have l2:=A.lies (r2,some b2,q2,x2) (by simp) b2 rfl;have l3:=A.lies (r3,some b3,q3,x3) (by simp) b3 rfl;have fX:=A.nd;simp at fX;have ja:=H.uw.2;have br:∀k c q ys,f k=some (some c,q,ys)→c<w.heap.size:=fun k c q ys h=>(H.lt h).2
 have o1:=H.add A.below l1.1 l1.2
 have o2:=o1.put (r:=r2) (b:=b2) (cp:=q2) (xs:=x2) (by omega) (fun k c q ys h=>by
  by_cases hk:k=r1
  ·subst hk;rw[bq]at h;cases h;exact fX.1.1
  ·rw[aD _ _ hk]at h;have:=br k c q ys h;omega) l2.2
 refine o2.put (r:=r3) (b:=b3) (cp:=q3) (xs:=x3) (by omega) (fun k c q ys h=>?_) l3.2;by_cases hk:k=r2
 ·subst hk;rw[bq]at h;cases h;exact fX.2
 ·rw[aD _ _ hk]at h;by_cases hk:k=r1
  ·subst hk;rw[bq]at h;cases h;exact fX.1.2
  ·rw[aD _ _ hk]at h;have:=br k c q ys h;omega
def Ch(j:Nat):bH→Option CK
 | .ops i=>if i=j then some (some (.ops 0))else none
 | .cases i q=>if i=j then some (some (.cases 0 q))else none
 |_=>none
theorem Te{j:Nat}{r r':bH}{k:CK}(h:Ch j r=some k)(h':Ch j r'=some k):r=r':=by
 cases r<;>cases r'<;>simp only[Ch]at h h'<;>(first|(cases h;done)|(cases h';done)|skip)
 all_goals
  split at h<;>split at h'
  all_goals first
   |(cases h;done)
   |(cases h';done)
   |(have e:=h.trans h'.symm;simp only[oZ,bH.ops.injEq,bH.cases.injEq,reduceCtorEq,true_and]at e;simp_all;done)
   |(have e:=h.trans h'.symm;simp only[oZ,bH.ops.injEq,bH.cases.injEq,reduceCtorEq,true_and]at e)
theorem WK{j:Nat}{r:bH}{k:CK}(h:Ch j r=some k):eI r=none:=by
 cases r<;>first|rfl|(simp[Ch]at h)
def iK(j:Nat)(f:bH→Option oJ)(aV:CK→Option Nat)(cap:CK→Nat)(c:CK→List Value):bH→Option oJ:=fun r=>match Ch j r with
 |some k=>some (aV k,cap k,c k)
 |none=>f r
theorem eF.clone(H:eF lo w0 w f){j:Nat}{ty:CK→Option (Nat×Nat)}{aV:CK→Option Nat}{cap:CK→Nat}{c:CK→List Value}(O:cN w.heap.size w w' aV ty cap c):eF lo w0 w' (iK j f aV cap c):=by
 have H':=H.eC O.below;have N9:∀r k,Ch j r=some k→iK j f aV cap c r=some (aV k,cap k,c k):=fun r k h=>by unfold iK;rw[h]
 have eJ:∀r,Ch j r=none→iK j f aV cap c r=f r:=fun r h=>by unfold iK;rw[h]
 refine⟨cN.below H',cN.tL H',fun r r' b h h'=>?_,fun r b h=>?_,fun r h=>?_⟩
 ·cases hp:Ch j r with
  |none=>
   rw[eJ r hp]at h
   cases vT:Ch j r' with
   |none=>rw[eJ r' vT]at h';exact cN.inj H r r' b h h'
   |some k'=>
    rw[N9 r' k' vT]at h';have h1:=(O.lies k' b h').1;have h2:=cN.lt H h;omega
  |some k=>
   rw[N9 r k hp]at h
   cases vT:Ch j r' with
   |none=>
    rw[eJ r' vT]at h';have h1:=(O.lies k b h).1;have h2:=cN.lt H h';omega
   |some k'=>
    rw[N9 r' k' vT]at h';have:=O.inj k k' b h h';subst this;exact Te hp vT
 ·cases hp:Ch j r with
  |none=>rw[eJ r hp]at h ⊢;exact cN.lies H' r b h
  |some k=>
   rw[N9 r k hp]at h ⊢;obtain⟨h1,arr,t,a1,a2,a3,a4⟩:=O.lies k b h;exact⟨by have:=H.uw.2;omega,arr,t,a1,a2,a3,fun p hq=>by rw[WK hp]at hq;cases hq⟩
 ·cases hp:Ch j r with
  |none=>rw[eJ r hp]at h ⊢;exact cN.none_ H' r h
  |some k=>rw[N9 r k hp]at h ⊢;exact O.none_ k h
theorem eF.others(H:eF lo w0 w f){b:Nat}(hn:∀k c q ys,f k=some (some c,q,ys)→c≠b)(h0:lo≤b)(j:Nat)(v:Value):eF lo w0 (w.setCell ⟨b,j,none⟩ v) f:=by
 refine cN.other H (a:=⟨b,j,none⟩) (fun k e=>?_) h0 v
 cases hf:f k with
 |none=>simp only[hf]at e;cases e
 |some y=>
  obtain⟨eb,q,ys⟩:=y;simp only[hf]at e;have e:eb=some b:=e;subst e;exact hn k b q ys hf rfl
theorem eF.KD(H:eF lo w0 w f){b:Nat}(hn:∀k c q ys,f k=some (some c,q,ys)→c≠b)(h0:lo≤b):∀(vs:List Value) (j:Nat) (W:World),eF lo w0 W f→eF lo w0 (W.setCells b j vs) f
 | [],_,_,h=>h
 |v::vs,j,W,h=>eF.KD H hn h0 vs (j+1) _ (h.others hn h0 j v)
end
theorem tt{P:Program}{ops:Array Oper}{o:Oper}{a:Act}{w:World}{K:Act→World→Prop}{Q:Exit→Act→World→Prop}{E:Prop}(nX:o.guard=none)(ty:TypeId)(x:Operand)(ho:o.op=.load ty x)(b off:Nat)(hx:a.eval x=.pointer (some ⟨b,off,none⟩))(cs:Array Value)(hc:∀j v,cs[j]?=some v→w.cell? ⟨b,off+j,none⟩=some v)(hu:∃d,P.underlying ty=some d∧(match d with| .struct _| .array _ _=>true|_=>false)=true)(hi:(P.info? ty).map (·.size)=some cs.size)(h:K (a.put o.dst (.agg cs)) w):if Region.wanted o (yielded ops a.tmps)=true then Oper.wp P o a w K Q else E:=by
 have hw:Region.wanted o (yielded ops a.tmps)=true:=by simp[Region.wanted,nX]
 rw[aF hw];obtain⟨d,hu,hd⟩:=hu
 have hr:(loadVar ty ⟨b,off,none⟩).run P w=.ok (.agg cs) w:=by
  cases d with
  |struct f=>exact run_loadVar_mid w b off ty cs _ hc hu rfl hi
  |array f e=>exact run_loadVar_mid w b off ty cs _ hc hu rfl hi
  |_=>cases hd
 unfold Oper.wp execOp;simp only[ho,hx,Instr.loadAt,Instr.sureAddr,Sem.run_bind,Sem.run_pure,Result.andThen_ok,hr];exact h
theorem qR{P:Program}{ops:Array Oper}{o:Oper}{a:Act}{K:Act→World→Prop}{Q:Exit→Act→World→Prop}{E:Prop}(nX:o.guard=none)(s x:Operand)(t:TypeId)(ho:o.op=.call {callee:=.builtin .append,args:=#[s,x],argTypes:=#[t,t]}){af:Nat}{e:TypeId}{i:TypeInfo}{z:Value}{size bytes:Nat}(ht:P.underlying t=some (.slice e))(hi:P.info? e=some i)(hz:i.zero=some z)(hsize:i.size=size)(hby:i.bytes=bytes)(hzs:z.cells.size=size)(hsz:0<size)(hbb:bytes≤1000){w2 W3:World}{us:Array Value}(hW:W3.heap=(w2.alloc (.cells us e)).heap)(hus:us.size=size)(h1:∀u∈us.toList,u.oneCell'=true)(v:Value)(n:Nat)(xs:List Value)(hs:a.eval s=v)(hown:w2.ownsRow af e size v n xs)(hx:a.eval x=.slice (some ⟨w2.heap.size,0,none⟩) 1 1)(hn:n<1000001)(hbase:af≤w2.heap.size)(h:∀g cap w',w'.ownsRow af e size (.slice (some ⟨g,0,none⟩) (n+1) cap) (n+1) (xs++us.toList)→W3.grownBy w' v.ownBlock→(v.ownBlock=some g∨W3.heap.size≤g)→K (a.put o.dst (.slice (some ⟨g,0,none⟩) (n+1) cap)) w'):if Region.wanted o (yielded ops a.tmps)=true then Oper.wp P o a W3 K Q else E:=by
 have hw:Region.wanted o (yielded ops a.tmps)=true:=by simp[Region.wanted,nX]
 rw[aF hw];exact EM s x t ho ht hi hz hsize hby hzs hsz hbb hW hus h1 v n xs hs hown hx hn hbase h
structure Ny(lo:Nat)(w0 wr:World)(f2:bH→Option oJ)(W:Value→List Value)(wb:Nat)(p:List (List cu))(j:Nat)(v:Value)(f:bH→Option oJ)(B:Nat→CK→Option Nat)(K:Nat→CK→Nat)(C:Nat→CK→List Value):Prop where
 own:eF lo w0 wr f
 al:f .al=some (some wb,0,W v)
 cU:v=nG ((f .gs).bind (·.1)) j (((f .gs).map (·.2.1)).getD 0)
 row:((f .gs).map (·.2.2)).getD []=bT (fun i l=>oX (nG (B i (some (.ops 0))) l.length (K i (some (.ops 0))))) 0 (p.take j)
 ops:∀(i:Nat) l,i<j→p[i]?=some l→f (.ops i)=some (B i (some (.ops 0)),K i (some (.ops 0)),bT (J6 (B i) (K i) 0) 0 l)
 cs:∀(i q:Nat),i<j→f (.cases i q)=some (B i (some (.cases 0 q)),K i (some (.cases 0 q)),C i (some (.cases 0 q)))
 cse:∀(i:Nat) l (q:Nat) o,i<j→p[i]?=some l→l[q]?=some o→C i (some (.cases 0 q))=bT fT 0 o.cases
 csn:∀(i:Nat) l (q:Nat),i<j→p[i]?=some l→l[q]?=none→C i (some (.cases 0 q))=[]
 no:∀i,j≤i→f (.ops i)=none∧∀q,f (.cases i q)=none
 N7:∀k,k≠ .al→k≠ .gs→(∀i,k≠ .ops i)→(∀i q,k≠ .cases i q)→f k=f2 k
section
variable{lo:Nat}{w0 wr w5 w6:World}{f2:bH→Option oJ}{W:Value→List Value}{wb j:Nat}{p:List (List cu)}{v:Value}{f:bH→Option oJ}{B:Nat→CK→Option Nat}{K:Nat→CK→Nat}{C:Nat→CK→List Value}
theorem Ny.WL(G:Ny lo w0 wr f2 W wb p j v f B K C)(hj:j≤p.length){aV:CK→Option Nat}{cap:CK→Nat}{c:CK→List Value}(O5:eF lo w0 w5 (iK j f aV cap c)):w5.ownsRow lo 100 25 v j (bT (fun i l=>oX (nG (B i (some (.ops 0))) l.length (K i (some (.ops 0))))) 0 (p.take j)):=by
 have h0:iK j f aV cap c .gs=f .gs:=rfl;have:=cN.owns O5 (k:=.gs) (p:=(100,25)) rfl (by decide) (n:=j) (by rw[h0,G.row,dX (k:=25) (fun _ _=>rfl),tC,Nat.min_eq_left hj]);rw[h0,G.row,←G.cU]at this;exact this
theorem Ny.aa7(G:Ny lo w0 wr f2 W wb p j v f B K C){w2 w3:World}{ty:CK→Option (Nat×Nat)}{aV:CK→Option Nat}{cap:CK→Nat}{c:CK→List Value}(hR:cN w2.heap.size w2 w3 aV ty cap c)(hm:wr.heap.size<w2.heap.size):∀k b q ys,iK j f aV cap c k=some (some b,q,ys)→b≠wr.heap.size:=by
 intro k b q ys h e;unfold iK at h;split at h
 ·rename_i ck BG;have h1:aV ck=some b:=by have:=congrArg (fun x:Option oJ=>x.bind (·.1)) h;exact this
  have:=(hR.lies ck b h1).1;omega
 ·have:=(G.own.lt h).2;omega
theorem Ny.push(G:Ny lo w0 wr f2 W wb p j v f B K C){l:List cu}(hl:p[j]?=some l){aV:CK→Option Nat}{cap:CK→Nat}{c:CK→List Value}(O5:eF lo w0 w5 (iK j f aV cap c))(mA:c (some (.ops 0))=bT (J6 aV cap 0) 0 l)(fa:∀(q:Nat) o,l[q]?=some o→c (some (.cases 0 q))=bT fT 0 o.cases)(RG:∀(q:Nat),l[q]?=none→c (some (.cases 0 q))=[]){g cp:Nat}(hg:w5.grownBy w6 v.ownBlock)(hown:w6.ownsRow lo 100 25 (.slice (some ⟨g,0,none⟩) (j+1) cp) (j+1) (bT (fun i l=>oX (nG (B i (some (.ops 0))) l.length (K i (some (.ops 0))))) 0 (p.take j)++oX (nG (aV (some (.ops 0))) l.length (cap (some (.ops 0))))))(gp:v.ownBlock=some g∨w5.heap.size≤g)(hW:∀a b,(W a).set 3 b=W b):∃f' B' K' C',Ny lo w0 (w6.setCell ⟨wb,3,none⟩ (.slice (some ⟨g,0,none⟩) (j+1) cp)) f2 W wb p (j+1) (.slice (some ⟨g,0,none⟩) (j+1) cp) f' B' K' C':=by
 have oF:∀k,Ch j k=none→iK j f aV cap c k=f k:=fun k h=>by unfold iK;rw[h]
 have hv:v.ownBlock=(iK j f aV cap c .gs).bind (·.1):=by rw[oF _ rfl,G.cU,gV]
 rw[hv]at hg gp;have O6:=O5.row (r:=.gs) (p:=(100,25)) (fun q h=>by cases h;rfl) hg hown gp;have O7:=O6.set (r:=.al) (b:=wb) (cp:=0) (j:=3) (xs:=W v) (v:=.slice (some ⟨g,0,none⟩) (j+1) cp) (by rw[aD _ _ (by simp),oF _ rfl];exact G.al);rw[hW]at O7;have vy:j<p.length:=cA hl;refine⟨_,(fun i=>if i=j then aV else B i),(fun i=>if i=j then cap else K i),(fun i=>if i=j then c else C i),O7,?_,?_,?_,?_,?_,?_,?_,?_,?_⟩
 ·rw[bq]
 ·rw[aD _ _ (by simp),bq];rfl
 ·rw[aD _ _ (by simp),bq,ox hl,ni,tC,Nat.min_eq_left (by omega)];simp only[km,Option.getD_some,bT,List.append_nil,Nat.zero_add,dt];congr 1;refine gX _ fun i x hx=>?_
  have:i<j:=by have:=cA hx;rw[tC]at this;omega
  rw[aE (by omega),aE (by omega)]
 ·intro i l' hi wi;rw[aD _ _ (by simp),aD _ _ (by simp)];by_cases e:i=j
  ·subst e;rw[hl]at wi;cases wi;simp only[dt];unfold iK Ch;simp only[dt];rw[mA]
  ·simp only[aE e];rw[oF _ (by simp[Ch,e])];exact G.ops i l' (by omega) wi
 ·intro i q hi;rw[aD _ _ (by simp),aD _ _ (by simp)];by_cases e:i=j
  ·subst e;simp only[dt];unfold iK Ch;simp only[dt]
  ·simp only[aE e];rw[oF _ (by simp[Ch,e])];exact G.cs i q (by omega)
 ·intro i l' q o hi wi ho;by_cases e:i=j
  ·subst e;rw[hl]at wi;cases wi;simp only[dt];exact fa q o ho
  ·simp only[aE e];exact G.cse i l' q o (by omega) wi ho
 ·intro i l' q hi wi ho;by_cases e:i=j
  ·subst e;rw[hl]at wi;cases wi;simp only[dt];exact RG q ho
  ·simp only[aE e];exact G.csn i l' q (by omega) wi ho
 ·intro i hi;have e:i≠j:=by omega
  refine⟨?_,fun q=>?_⟩
  ·rw[aD _ _ (by simp),aD _ _ (by simp),oF _ (by simp[Ch,e])];exact(G.no i (by omega)).1
  ·rw[aD _ _ (by simp),aD _ _ (by simp),oF _ (by simp[Ch,e])];exact(G.no i (by omega)).2 q
 ·intro k h1 h2 h3 h4;rw[aD _ _ h1,aD _ _ h2]
  rw[oF k (by
   cases k<;>first
    |rfl
    |exact aX rfl (h3 _)
    |exact aX rfl (h4 _ _))]
  exact G.N7 k h1 h2 h3 h4
end
end Go.Proofs.YtadifmnmfnihdaaGreat
