import Derived.Test.YtadifmnmfnihdaaGreatA08
import Derived.Test.YtadifmnmfnihdaaGreatA09
import Derived.Test.YtadifmnmfnihdaaGreatA12
set_option linter.all false
set_option maxRecDepth 100000
set_option maxHeartbeats 40000000
namespace Go.Proofs.YtadifmnmfnihdaaGreat
open Mach
namespace V
section
variable{w w':Wd}{ls:List (List Nat)}{g:Nat}{x x':bI}
theorem qK(hx:w.gs[g]?=some x)(f:bI→bI):fL w g f=some (w.ay g (f x)):=by unfold fL;rw[hx];rfl
theorem wa(hx:w.gs[g]?=some x)(p:Int):cD w g p=some (w.ay g {x with ae:=p}):=qK hx _
theorem Fs(I:Inv w ls){ch:Int}(h:1≤ch∧ch≤w.au.length):∃b,idx w.aO (ch-1)=some b∧dK w ch=b:=by
 obtain⟨b,hb⟩:∃b,w.aO[(ch-1).toNat]?=some b:=⟨_,fv (by have:=I.aO;omega)⟩;have e:idx w.aO (ch-1)=some b:=by unfold idx;rw[aF oX];exact hb
 exact⟨b,e,by unfold dK;rw[(gz I h).1,e];rfl⟩
section
variable(I:Inv w ls)(hx:w.gs[g]?=some x)(hs:Na w g)
include I hx hs
theorem Df(hk:(aP x).ai=4)(hp:x.ae=1):∃w',ll w g (aP x).ch=some w'∧Inv w' ls∧bK w w':=by
 have L:=I.loc g x hx;obtain⟨hm,r,hr,ok⟩:=gz I (L.cZ oX oX oX oX oX);obtain⟨b,hb⟩:∃b,pY w (aP x).ch=some b:=by unfold pY;rw[hm,hr];simp only[aH6,dF,bW,eN];split<;>exact⟨_,rfl⟩
 unfold ll;simp only[hb,bW,eN]
 cases b with
 |true=>obtain⟨m1,m2,m3⟩:=M.s1a L (.inl hk) hp;exact⟨_,wa hx 4,I.ku hx hs m1 ⟨sX,sX⟩ m2 m3 rfl⟩
 |false=>obtain⟨m1,m2,m3⟩:=M.s1b L (.inl hk) hp w.av;exact⟨_,qK hx _,I.ku hx hs m1 ⟨sX,sX⟩ m2 m3 rfl⟩
theorem AR(hk:(aP x).ai=4)(hp:x.ae=2):∃w',jG w g (aP x).ch=some w'∧Inv w' ls∧bK w w':=by
 have L:=I.loc g x hx;unfold jG;split
 ·obtain⟨m1,m2,m3⟩:=M.s2a L hk hp;exact bc3
 ·obtain⟨m1,m2,m3⟩:=M.s2b L (.inl hk) hp;exact bc3
theorem AS(hk:(aP x).ai=2∨(aP x).ai=4)(hp:x.ae=5):∃w',jH w g (aP x).ch=some w'∧Inv w' ls∧bK w w':=by
 have L:=I.loc g x hx;unfold jH;split
 ·obtain⟨m1,m2,m3⟩:=M.s5a L oX hp w.av (bZ 3) rfl;exact bc3
 ·exact bd2
theorem qL(hk:(aP x).ai=2∨(aP x).ai=4)(hp:x.ae=9):∃w',jY w g (aP x)=some w'∧Inv w' ls∧bK w w':=by
 have L:=I.loc g x hx;obtain⟨hm,r,hr,ok⟩:=gz I (L.cZ oX oX oX oX oX);unfold jY aH8;simp only[hm,hr,dt,bW,eN];have eE:(w.dZ ((aP x).ch-1).toNat (r.put (aP x).v).1).gs[g]?=some x:=hx
 cases(r.put (aP x).v).2 with
 |true=>obtain⟨m1,m2,m3⟩:=M.s9a L oX hp w.av (bZ 1) rfl;exact⟨_,qK eE _,I.LN hx hs m1 ⟨sX,sX⟩ m2 m3 rfl (Ring.C2 ok _)⟩
 |false=>
  simp only[nW,dF];split
  ·obtain⟨m1,m2,m3⟩:=M.s9a L oX hp w.av (bZ 2) rfl;exact⟨_,qK eE _,I.LN hx hs m1 ⟨sX,sX⟩ m2 m3 rfl (Ring.C2 ok _)⟩
  ·obtain⟨m1,m2,m3⟩:=M.s9b L oX hp;exact⟨_,wa eE 10,I.LN hx hs m1 ⟨sX,sX⟩ m2 m3 rfl (Ring.C2 ok _)⟩
end
theorem Dg(I:Inv w ls){ch:Int}(h:1≤ch∧ch≤w.au.length):∃b,iX w ch=some b:=by
 obtain⟨hm,r,hr,ok⟩:=gz I h;unfold iX;rw[hm,hr];simp only[aH6,dF,bW,eN];split<;>exact⟨_,rfl⟩
section
variable(I:Inv w ls)(hx:w.gs[g]?=some x)(hs:Na w g)
include I hx hs
theorem Dh(hk:(aP x).ai=5)(hp:x.ae=1∨x.ae=2∨x.ae=3):∃w',lx w g (aP x).ch=some w'∧Inv w' ls∧bK w w':=by
 have L:=I.loc g x hx;obtain⟨b,hb⟩:=Dg I (L.cZ oX oX oX oX oX);unfold lx;simp only[hx,bW,eN];rcases hp with hp|hp|hp
 ·simp only[hp,dt,hb,eN]
  cases b with
  |true=>obtain⟨m1,m2,m3⟩:=M.s1a L (.inr hk) hp;exact⟨_,wa hx 4,I.ku hx hs m1 ⟨sX,sX⟩ m2 m3 rfl⟩
  |false=>obtain⟨m1,m2,m3⟩:=M.s1b L (.inr hk) hp w.av;exact⟨_,rfl,I.ku hx hs m1 ⟨sX,sX⟩ m2 m3 rfl⟩
 ·rw[aE oX,aF hp];split
  ·obtain⟨m1,m2,m3⟩:=M.r2a L hk hp;exact⟨_,wa hx 3,I.ku hx hs m1 ⟨sX,sX⟩ m2 m3 rfl⟩
  ·obtain⟨m1,m2,m3⟩:=M.s2b L (.inr hk) hp;exact bc6
 ·rw[aE oX,aE oX];simp only[hb,eN]
  cases b with
  |true=>obtain⟨m1,m2,m3⟩:=M.r3a L hk hp;exact⟨_,rfl,I.ku hx hs m1 ⟨sX,sX⟩ m2 m3 rfl⟩
  |false=>obtain⟨m1,m2,m3⟩:=M.r3b L hk hp w.av;exact⟨_,rfl,I.ku hx hs m1 ⟨sX,sX⟩ m2 m3 rfl⟩
theorem AT(hk:(aP x).ai=3∨(aP x).ai=5)(hp:x.ae=5):∃w',jI w g (aP x).ch=some w'∧Inv w' ls∧bK w w':=by
 have L:=I.loc g x hx;obtain⟨hm,r,hr,ok⟩:=gz I (L.cZ oX oX oX oX oX);unfold jI;simp only[hx,hr,bW,eN];split
 ·split
  ·obtain⟨m1,m2,m3⟩:=M.s5c L oX hp;exact⟨_,wa hx 9,I.ku hx hs m1 ⟨sX,sX⟩ m2 m3 rfl⟩
  ·obtain⟨m1,m2,m3⟩:=M.s5a L oX hp w.av {aJ:=1,case:= -1} rfl;exact bc6
 ·exact bd2
theorem qM(hk:(aP x).ai=3∨(aP x).ai=5)(hp:x.ae=9):∃w',jZ w g (aP x)=some w'∧Inv w' ls∧bK w w':=by
 have L:=I.loc g x hx;obtain⟨hm,r,hr,ok⟩:=gz I (L.cZ oX oX oX oX oX);unfold jZ getRing;simp only[hm,hr,dt,bW,eN];have eE:(w.dZ ((aP x).ch-1).toNat r.get.1).gs[g]?=some x:=hx
 cases r.get.2.2 with
 |true=>obtain⟨m1,m2,m3⟩:=M.s9a L oX hp w.av {aJ:=1,case:= -1,v:=r.get.2.1,ok:=true} rfl;exact⟨_,qK eE _,I.LN hx hs m1 ⟨sX,sX⟩ m2 m3 rfl (Ring.C3 ok)⟩
 |false=>
  simp only[nW,dF];split
  ·obtain⟨m1,m2,m3⟩:=M.s9b L oX hp;exact⟨_,wa eE 10,I.LN hx hs m1 ⟨sX,sX⟩ m2 m3 rfl (Ring.C3 ok)⟩
  ·obtain⟨m1,m2,m3⟩:=M.s9a L oX hp w.av {aJ:=2,case:= -1} rfl;exact⟨_,qK eE _,I.LN hx hs m1 ⟨sX,sX⟩ m2 m3 rfl (Ring.C3 ok)⟩
theorem LX(hk:(aP x).ai=6)(hp:x.ae=21):∃w',uD w g (aP x).ch=some w'∧Inv w' ls∧bK w w':=by
 have L:=I.loc g x hx;have hc:=L.cZ oX oX oX oX oX;obtain⟨hm,r,hr,ok⟩:=gz I hc;unfold uD;simp only[hx,bW,eN];split
 ·obtain⟨m1,m2,m3⟩:=M.am1 L hk hp w.av {aJ:=4,case:= -1} rfl;exact bc6
 ·have gm:=I.aO;have e:put w.aO ((aP x).ch-1) true=some (w.aO.set ((aP x).ch-1).toNat true):=by unfold put;rw[aF oX]
  simp only[e,km,eN];obtain⟨m1,m2,m3⟩:=M.am2 L hk hp w.av {aJ:=1,case:= -1,ok:=true} rfl;exact⟨_,rfl,I.frame hx hs m1 sX sX m2 rfl rfl rfl I.au bp6 rfl (I.lock.same hx m3) rfl rfl rfl,dW hx rfl,rfl,rfl,rfl,rfl,rfl⟩
end
end
theorem sf:∀(n:Nat) (m c:List Int),∃t,m=(dN n m c).1++t∧(dN n m c).2=c++t.reverse∧t.length≤n
 |0,m,c=>⟨[],by simp[dN]⟩
 |n+1,m,c=>by
  unfold dN;rcases ym m with rfl|⟨m',x,rfl⟩
  ·exact⟨[],sX⟩
  ·rw[yn];simp only[List.getLast?_append,List.getLast?_singleton,Option.some_or,List.dropLast_concat];obtain⟨t,h1,h2,h3⟩:=sf n m' (c++[x]);refine⟨t++[x],?_,?_,by simp;exact h3⟩
   ·rw[←List.append_assoc,←h1]
   ·rw[h2];simp
theorem y7:∀(n:Nat) (m c:List Int),∃t,c=(nS n m c).2++t∧(nS n m c).1=m++t.reverse∧(n≤c.length→t.length=n)
 |0,m,c=>⟨[],by simp[nS]⟩
 |n+1,m,c=>by
  unfold nS;rcases ym c with rfl|⟨c',x,rfl⟩
  ·exact⟨[],sX⟩
  ·rw[yn];simp only[List.getLast?_append,List.getLast?_singleton,Option.some_or,List.dropLast_concat];obtain⟨t,h1,h2,h3⟩:=y7 n (m++[x]) c';refine⟨t++[x],?_,?_,fun h=>?_⟩
   ·rw[←List.append_assoc,←h1]
   ·rw[h2];simp
   ·simp at h ⊢;exact h3 oX
theorem y8{L:List (List Int)}{g:Nat}{c:List Int}(h:L[g]?=some c):∃A B:List Int,L.flatten=A++c++B∧∀c',(L.set g c').flatten=A++c'++B:=by
 induction L generalizing g with
 |nil=>simp at h
 |cons d L ih=>
  cases g with
  |zero=>
   simp at h;subst h;exact⟨[],L.flatten,sX,fun c'=>sX⟩
  |succ g=>
   obtain⟨A,B,h1,h2⟩:=ih (g:=g) bj3;exact⟨d++A,B,by simp[h1],fun c'=>by simp[h2]⟩
theorem rQ.small{p:fS}{N n:Nat}(P:rQ p N n):(p.aK++p.aC.flatten).length≤N:=by
 have h:=jy N ((p.aK++p.aC.flatten).map Int.toNat) ?_ ?_
 ·rw[ko]at h;exact h
 ·refine List.pairwise_map.2 (P.nd.imp_of_mem fun ha hb cM e=>cM ?_);have:=(P.kept _ ha).1;have:=(P.kept _ hb).1;omega
 ·intro x hx;obtain⟨y,hy,rfl⟩:=List.mem_map.1 hx;obtain⟨_,h1,_⟩:=P.kept y hy;have:=cA h1;rw[P.bV]at this;exact this
theorem iW(p:fS)(y:Nat):p.cK y=true↔(y:Int)<p.cO∧p.bV[y]?=some false:=by
 unfold fS.cK idx;simp only[Int.natCast_nonneg,decide_true,Bool.true_and,dt,oU,qs,decide_eq_true_eq]
 cases h:p.bV[y]? with
 |none=>simp
 |some b=>cases b<;>simp
theorem y9{a b:Bool}(h:a=true↔b=true):a=b:=by cases a<;>cases b<;>simp_all
theorem rQ.of{p p':fS}{N n:Nat}(P:rQ p N n)(h1:p'.size=p.size)(h2:p'.most=p.most)(h3:p'.bV.length=p.bV.length)(h4:p'.aC.length=p.aC.length)(h5:∀c∈p'.aC,(c.length:Int)≤p.most)(h6:0≤p'.cO∧p'.cO≤p'.bV.length)(h7:(p'.aK++p'.aC.flatten).Nodup)(h8:∀x∈p'.aK++p'.aC.flatten,0≤x∧p'.bV[x.toNat]?=some true∧x<p'.cO)(h9:∀y:Nat,p'.cO≤y→y<N→p'.bV[y]?=some false):rQ p' N n:=by
 obtain⟨o1,o2,o3,o4,o5,o6,o7,o8,o9,o10⟩:=P.ok;have hh:p'.bV.length=N:=h3.trans P.bV;have dD:∀x∈p'.aK++p'.aC.flatten,0≤x∧x<p'.bV.length:=fun x hx=>by have:=h8 x hx;omega
 have hs:(p'.aK++p'.aC.flatten).length≤N:=by
  have h:=jy N ((p'.aK++p'.aC.flatten).map Int.toNat) ?_ ?_
  ·rw[ko]at h;exact h
  ·refine List.pairwise_map.2 (h7.imp_of_mem fun ha hb cM e=>cM ?_);have:=(h8 _ ha).1;have:=(h8 _ hb).1;omega
  ·intro x hx;obtain⟨y,hy,rfl⟩:=List.mem_map.1 hx;have:=dD y hy;omega
 have h64:N≤64:=by have:=P.bV;omega
 refine⟨⟨oX,oX,h6.1,h6.2,oX,oX,fun x hx=>dD x (List.mem_append_left _ hx),fun c hc x hx=>dD x (List.mem_append_right _ (List.mem_flatten.2 ⟨c,hc,hx⟩)),by simp at hs;omega,fun c hc=>?_⟩,h1.trans P.size,hh,h4.trans P.aC,by rw[h2];exact h5,h7,h8,h9⟩;have:=h5 c hc;omega
section
variable{p:fS}{N n g:Nat}(P:rQ p N n)(hg:g<n)
include P hg
theorem we:((p.take g).2.2=true→∃j:Nat,(p.take g).2.1=j∧j<N∧p.cK j=false∧(p.take g).1.cK j=true∧(∀y:Nat,y≠j→(p.take g).1.cK y=p.cK y)∧rQ (p.take g).1 N n)∧((p.take g).2.2=false→(p.take g).1=p):=by
 have hc:g<p.aC.length:=by rw[P.aC];exact hg
 obtain⟨c,hc⟩:∃c,p.aC[g]?=some c:=⟨_,fv hc⟩;have K8:c∈p.aC:=lf hc;obtain⟨A,B,hA,hB⟩:=y8 hc;obtain⟨o1,o2,o3,o4,o5,o6,o7,o8,o9,o10⟩:=P.ok;have fX:=P.nd;have hk:=P.kept
 have ZE:((p.filled c).1++(p.filled c).2).Perm (p.aK++c)∧((p.filled c).2.length:Int)≤p.most∧((p.filled c).2=[]→(p.filled c).1=p.aK∧c=[]):=by
  unfold fS.filled;split
  ·rename_i e;subst e;obtain⟨t,h1,h2,h3⟩:=sf (max 1 (p.most.toNat / 2)) p.aK [];refine⟨?_,?_,fun h=>?_⟩
   ·rw[h2];conv=>rhs;rw[h1]
    simp only[List.nil_append,List.append_nil];exact List.Perm.append_left _ t.reverse_perm
   ·rw[h2];simp;omega
   ·rw[h2]at h;simp at h;subst h;rw[List.append_nil]at h1;exact⟨h1.symm,rfl⟩
  ·rename_i e;exact⟨.refl _,P.most c K8,fun h=>aX h e⟩
 obtain⟨f1,f2,f3⟩:=ZE;unfold fS.take;simp only[hc];rcases ym (p.filled c).2 with h0|⟨c',x,h0⟩
 ·obtain⟨h1,h2⟩:=f3 h0;rw[h0];simp only[List.getLast?_nil];by_cases hf:p.cO<p.size
  ·rw[aF hf];have dD:p.cO.toNat<N:=by have:=P.size;omega
   have BZ:=P.new p.cO.toNat oX dD;refine⟨fun _=>⟨p.cO.toNat,bi8,dD,?_,?_,?_,?_⟩,fun h=>bk0⟩
   ·have h:=iW p p.cO.toNat
    cases hb:p.cK p.cO.toNat with
    |false=>rfl
    |true=>have:=(h.1 hb).1;omega
   ·exact(iW _ _).2 ⟨bj2,BZ⟩
   ·intro y hy;refine y9 ((iW _ _).trans (Iff.trans ?_ (iW _ _).symm));simp only;constructor
    ·rintro⟨a,b⟩;exact⟨oX,b⟩
    ·rintro⟨a,b⟩;exact⟨oX,b⟩
   ·exact P.of rfl rfl rfl rfl P.most (by simp only;have:=P.size;omega) fX (fun x hx=>by have:=hk x hx;exact⟨this.1,this.2.1,bj2⟩) (fun y hy ZF=>P.new y (by simp only at hy;omega) ZF)
  ·rw[aE hf];exact⟨fun h=>bk0,fun _=>rfl⟩
 ·rw[yn]at h0;rw[h0];simp only[List.getLast?_append,List.getLast?_singleton,Option.some_or,List.dropLast_concat];rw[h0]at f1 f2
  have B6:(x::((p.filled c).1++(p.aC.set g c').flatten)).Perm (p.aK++p.aC.flatten):=by
   rw[hB,hA];have e1:((p.filled c).1++(c'++[x])++(A++B)).Perm (p.aK++c++(A++B)):=f1.append_right _;refine List.Perm.trans ?_ (e1.trans ?_)
   ·have:(x::((p.filled c).1++(A++c'++B))).Perm ((p.filled c).1++(c'++[x])++(A++B)):=by
     rw[List.perm_iff_count];intro a;simp only[List.count_cons,List.count_append,List.count_nil];omega
    exact this
   ·rw[List.perm_iff_count];intro a;simp only[List.count_append];omega
  have hxm:x∈p.aK++p.aC.flatten:=B6.subset sX;obtain⟨k0,k1,k2⟩:=hk x hxm;have vI:=cA k1;have Wj:(x::((p.filled c).1++(p.aC.set g c').flatten)).Nodup:=(B6.nodup_iff).2 fX;rw[List.nodup_cons]at Wj;refine⟨fun _=>⟨x.toNat,oX,by have:=P.bV;omega,?_,?_,?_,?_⟩,fun h=>bk0⟩
  ·cases hb:p.cK x.toNat with
   |false=>rfl
   |true=>
    have h1:=((iW p x.toNat).1 hb).2;rw[k1]at h1;cases h1
  ·refine(iW _ _).2 ⟨bj2,?_⟩;simp only;rw[nH vI]
  ·intro y hy;refine y9 ((iW _ _).trans (Iff.trans ?_ (iW _ _).symm));simp only;rw[oA (dE hy)]
  ·refine P.of rfl rfl sX sX (fun d hd=>?_) (by simp only;rw[kI];exact⟨o3,o4⟩) Wj.2 (fun y hy=>?_) (fun y hy ZF=>?_)
   ·rcases List.mem_or_eq_of_mem_set hd with h|h
    ·exact P.most d h
    ·rw[h];simp at f2;omega
   ·obtain⟨a,b,d⟩:=hk y (B6.subset (nO _ hy));refine⟨a,?_,d⟩;simp only;rw[oA (fun e=>?_)]
    ·exact b
    ·have:y=x:=by omega
     exact Wj.1 (this▸hy)
   ·simp only at hy ⊢;rw[oA (fun e=>oX)];exact P.new y hy ZF
theorem B7{x:Nat}(hl:p.cK x=true):(p.nh g x).1.cK x=false∧(∀y:Nat,y≠x→(p.nh g x).1.cK y=p.cK y)∧rQ (p.nh g x).1 N n:=by
 have hc:g<p.aC.length:=by rw[P.aC];exact hg
 obtain⟨c,hc⟩:∃c,p.aC[g]?=some c:=⟨_,fv hc⟩;have K8:c∈p.aC:=lf hc;obtain⟨A,B,hA,hB⟩:=y8 hc;obtain⟨o1,o2,o3,o4,o5,o6,o7,o8,o9,o10⟩:=P.ok;have fX:=P.nd;have hk:=P.kept;obtain⟨l1,l2⟩:=(iW p x).1 hl;have vI:=cA l2
 have Ax:((p.mu c).1++(p.mu c).2).Perm (p.aK++c)∧((p.mu c).2.length:Int)+1≤p.most:=by
  unfold fS.mu;have gm:=P.most c K8;split
  ·rename_i e;obtain⟨t,h1,h2,h3⟩:=y7 (c.length-p.most.toNat / 2) p.aK c;have h4:=h3 oX;have h5:c.length=(nS (c.length-p.most.toNat / 2) p.aK c).2.length+t.length:=by conv=>lhs;rw[h1,py]
   refine⟨?_,oX⟩;rw[h2];conv=>rhs;rw[h1]
   rw[List.perm_iff_count];intro a;simp only[List.count_append,List.count_reverse];omega
  ·rename_i e;exact⟨.refl _,bj2⟩
 obtain⟨s1,s2⟩:=Ax;unfold fS.nh;simp only[hc,hl,aH6,dF];have B6:((p.mu c).1++(p.aC.set g ((p.mu c).2++[(x:Int)])).flatten).Perm ((x:Int)::(p.aK++p.aC.flatten)):=by rw[hB,hA,List.perm_iff_count];intro a;have:=(List.perm_iff_count.1 s1) a;simp only[List.count_append,List.count_cons,List.count_nil]at this ⊢;omega
 have hxn:(x:Int) ∉ p.aK++p.aC.flatten:=fun h=>by have h1:=(hk _ h).2.1;rw[oU,l2]at h1;cases h1
 refine⟨?_,fun y hy=>?_,?_⟩
 ·have hn:=iW {p with aK:=(p.mu c).1,aC:=p.aC.set g ((p.mu c).2++[(x:Int)]),bV:=p.bV.set (x:Int).toNat true} x
  cases hb:fS.cK {p with aK:=(p.mu c).1,aC:=p.aC.set g ((p.mu c).2++[(x:Int)]),bV:=p.bV.set (x:Int).toNat true} x with
  |false=>rfl
  |true=>
   have:=(hn.1 hb).2;simp only[oU]at this;rw[nH vI]at this
   cases this
 ·refine y9 ((iW _ _).trans (Iff.trans ?_ (iW _ _).symm));simp only[oU];rw[oA (dE hy)]
 ·refine P.of rfl rfl sX sX (fun d hd=>?_) (by simp only;rw[kI];exact⟨o3,o4⟩) (B6.nodup_iff.2 (List.nodup_cons.2 ⟨hxn,fX⟩)) (fun y hy=>?_) (fun y hy ZF=>?_)
  ·rcases List.mem_or_eq_of_mem_set hd with h|h
   ·exact P.most d h
   ·rw[h];simp;omega
  ·simp only[oU];rcases iL.1 (B6.subset hy)with h|h
   ·subst h;exact⟨oX,by rw[oU,nH vI],l1⟩
   ·obtain⟨a,b,d⟩:=hk y h;refine⟨a,?_,d⟩;rw[oA (fun e=>?_)]
    ·exact b
    ·have:y=x:=by omega
     exact hxn (this▸h)
  ·simp only[oU]at hy ⊢;rw[oA (fun e=>oX)];exact P.new y hy ZF
end
section
variable{gs:List bI}{b:List (Int×Bool)}
theorem tc.keep(h:tc gs b){g:Nat}{x x':bI}(hx:gs[g]?=some x)(hw:aW x→aW x')(hp:0≤x.aN→0≤x'.aN)(h1:x'.ae=x.ae)(h2:x'.at_=x.at_)(h3:x'.ops=x.ops):tc (gs.set g x') b:=by
 intro j y s t hy hb;rcases cX hx hy with⟨e,e2⟩|⟨cM,rN⟩
 ·subst e e2;obtain⟨a1,a2,a3,a4,a5,a6,a7⟩:=h _ x s t hx hb;refine⟨a1,a2,fun ht=>?_,by rw[h1];exact a4,by rw[h1];exact a5,fun k l=>hp (a6 (by rw[←h1];exact k) l),by rw[h1,h2,h3];exact a7⟩;obtain⟨c1,c2,c3,c4⟩:=a3 ht;exact⟨hw c1,by rw[h1];exact c2,hp c3,c4⟩
 ·exact h j y s t rN hb
theorem pD.keep(h:pD gs b){g:Nat}{x x':bI}(hx:gs[g]?=some x)(hw:aW x→aW x')(hp:0≤x.aN→0≤x'.aN)(hk:x'.wakes.Sublist x.wakes)(Ng:x'.ae=14→x.ae=14):pD (gs.set g x') b:=by
 intro j y z hy hz
 have xq:∃(j0:Nat) (y0:bI),gs[j0]?=some y0∧z∈y0.wakes:=by
  rcases cX hx hy with⟨h1,h2⟩|⟨cM,hy⟩
  ·exact⟨g,x,hx,hk.subset (by rw[←h2];exact hz)⟩
  ·exact⟨j,y,hy,hz⟩
 obtain⟨j0,y0,J2,fV⟩:=xq;obtain⟨i,u,s,h0,h1,h2,h3,h4,h5⟩:=h j0 y0 z J2 fV;by_cases hi:i=g
 ·subst hi;rw[hx]at h1;cases h1;exact⟨i,x',s,h0,di _ hx,hw h2,hp h3,h4,fun h=>h5 (Ng h)⟩
 ·exact⟨i,u,s,h0,by rw[gd _ hi];exact h1,h2,h3,h4,h5⟩
end
theorem iB{y:bI}(h:aW y):y.ae=12∨y.ae=13∨y.ae=14∨y.ae=29∨y.ae=30:=by
 rcases h with⟨_,h|h|h⟩|⟨_,h|⟨h,_⟩|h|h⟩<;>omega
theorem xZ{y:bI}(h:y.ae=12∨y.ae=13∨y.ae=14∨y.ae=29∨y.ae=30):¬aT y∧¬bm y:=by
 unfold aT bm;omega
theorem Loc.Wl{C:Nat}{x x':bI}(h:gU C x∧Ej x∧nm x)(h1:aP x'=aP x)(h2:x'.ae=x.ae)(h3:x'.res=x.res)(h4:x'.bA=x.bA)(h5:x'.aH=x.aH)(h6:x'.aq=x.aq)(h7:x'.k=x.k):gU C x'∧Ej x'∧nm x':=by
 obtain⟨⟨s1,s2,s3,s4,s5,s6,s7⟩,s8,⟨s9,V1,ZI,s12,s13,s14,s15⟩⟩:=h;refine⟨⟨by rw[h5];exact s1,by rw[h5,h1,h6];exact s2,by rw[h5];exact s3,by rw[h5];exact s4,by rw[h6];exact s5,by rw[h6];exact s6,by rw[h6];exact s7⟩,by unfold Ej at*;rw[h2,h5,h6,h7];exact s8,⟨by rw[h2,h3,h4];exact s9,by rw[h1,h2,h3,h4];exact V1,by rw[h4,h5];exact ZI,by rw[h2,h3,h4,h5];exact s12,by rw[h2,h4,h5,h7];exact s13,by rw[h2,h4,h5,h7];exact s14,by rw[h2,h4,h5,h7];exact s15⟩⟩
theorem Loc.ZJ{C:Nat}{y:bI}(L:Loc C y)(hw:aW y)(hp:y.aN= -1)(p q f:Int)(b:Bool)(hf:(aP y).ai≠9→f= -1)(hb:(aP y).ai≠9→b=y.bk):Loc C {y with point:=p,bF:=q,fire:=f,bk:=b}:=by
 have kM:=iB hw;have n0:¬y.ae=0:=oX
 have n1:¬(y.ae=24∨y.ae=25∨y.ae=26∨y.ae=28):=oX
 have n2:¬y.ae=27:=oX
 have n3:¬0≤y.aN:=oX
 have n5:¬(y.ae=31∨y.ae=32):=oX
 have n4:(aP y).ai=9→¬((y.ae=30∧y.res.aJ≠0)∨y.ae=31∨y.ae=32∨y.ae=33∨y.ae=34∨y.ae=17∨y.ae=18):=by
  intro hk;rcases hw with⟨h,_⟩|⟨_,h⟩
  ·exact aX hk h
  ·omega
 exact⟨L.JY,L.ops,L.Uy,L.kp,L.pl,fun h=>aX h n0,L.cZ,fun a b c d e=>Loc.Wl (L.oW a b c d e) rfl rfl rfl rfl rfl rfl rfl,L.ready,L.uP,L.bY,L.tI,L.yC,L.rest,L.br,L.aN,fun a=>⟨hf a,(L.plain a).2.1,(hb a).trans (L.plain a).2.2⟩,fun a c=>aX c n1,fun a=>aX a n2,L.BE,fun a=>⟨fun c d=>aX d n3,fun c=>aX c n5⟩,L.dG,fun a c=>aX c (n4 a),L.num⟩
theorem Loc.Wm{C:Nat}{y:bI}(L:Loc C y)(hw:aW y)(s:Nat)(B9:(aP y).ai=9→y.bk=true):Loc C {y with aN:=(s:Int)}:=by
 have hw':aW {y with aN:=(s:Int)}:=hw;have kM:=iB hw;have n0:¬y.ae=0:=oX
 exact⟨L.JY,L.ops,L.Uy,L.kp,L.pl,fun h=>aX h n0,L.cZ,fun a b c d e=>Loc.Wl (L.oW a b c d e) rfl rfl rfl rfl rfl rfl rfl,L.ready,L.uP,L.bY,L.tI,L.yC,L.rest,L.br,⟨bj2,fun h=>aX hw' h⟩,L.plain,L.cO,L.hand,L.BE,fun a=>⟨fun _ _=>B9 a,fun _=>B9 a⟩,L.dG,L.res,L.num⟩
theorem Loc.Wn{C:Nat}{x:bI}(L:Loc C x)(hp:x.ae=16∨x.ae=22∨x.ae=30∧x.res.aJ=1)(z:Int):Loc C {x with wakes:=x.wakes++[z]}:=by
 have n0:¬x.ae=0:=oX
 exact⟨L.JY,L.ops,L.Uy,L.kp,L.pl,fun h=>aX h n0,L.cZ,fun a b c d e=>Loc.Wl (L.oW a b c d e) rfl rfl rfl rfl rfl rfl rfl,fun h=>sX,fun a b c d e=>(by simp only at a c e;omega),L.bY,L.tI,L.yC,L.rest,L.br,L.aN,L.plain,L.cO,L.hand,L.BE,L.bk,L.dG,L.res,L.num⟩
section
variable{w w':Wd}{ls:List (List Nat)}
section
variable(I:Inv w ls)
include I
theorem Inv.Wo{z:Nat}{y:bI}(hy:w.gs[z]?=some y)(hw:aW y)(hp:y.aN= -1):(∃s,w.ax[z]?=some (s,false)∧(y.ae=14→s=1))∧∀(j:Nat) u,w.gs[j]?=some u→(z:Int) ∉ u.wakes:=by
 constructor
 ·obtain⟨⟨s,t⟩,hb⟩:∃p,w.ax[z]?=some p:=⟨_,fv (by rw[I.ax];exact(cA hy))⟩;obtain⟨a1,a2,a3,a4,a5,a6,a7⟩:=I.st z y s t hy hb
  cases t with
  |true=>have:=(a3 rfl).2.2.1;omega
  |false=>
   refine⟨s,hb,fun h=>?_⟩;by_cases h0:s=0
   ·have:=a6 h h0;omega
   ·by_cases h2:s=2
    ·have:=(a7 h2).1;omega
    ·omega
 ·intro j u hu hz;obtain⟨i,v,s,h0,h1,h2,h3,_⟩:=I.jn j u z hu hz;obtain rfl:i=z:=by omega
  rw[hy]at h1;cases h1;omega
theorem Inv.wj{s k z:Nat}{l:List Nat}{sd:gn}{y:bI}(hl:ls[k]?=some l)(hm:s∈l)(hs:w.ah[s]?=some sd)(hz:sd.g=z)(hy:w.gs[z]?=some y)(hp:(aP y).ai=9→y.bk=false):∀(j:Nat) u (s':Nat) sd',w.gs[j]?=some u→aT u→u.br=s'→w.ah[s']?=some sd'→sd'.g≠z:=by
 intro j u s' sd' hu hc hh hs' hg;obtain⟨t,z',AU,y2,h1,h2,h3,h4,h5,h6,h7,h8,h9,ph,rA,uQ,uu⟩:=I.claim j u hu hc;obtain rfl:t=s':=oX
 rw[hs']at h2;cases h2;obtain rfl:z'=z:=oX
 rw[hy]at h6;cases h6;by_cases hk:(aP y).ai=9
 ·rw[hp hk]at rA;exact aX (rA hk) sX
 ·obtain⟨ZK,g3,x3,a1,a2,a3,a4,a5,_⟩:=I.EJ k l s hl hm;rw[hs]at a1;cases a1;obtain rfl:g3=z':=by omega
  rw[hy]at a4;cases a4;have e1:y.bY=s:=by rcases a5 with a|a;exact a.2.1;exact aX a.1 hk
  have e2:y.bY=t:=by rcases h7 with a|a;exact a.2.1;exact aX a.1 hk
  obtain rfl:t=s:=oX
  exact uQ hk k l hl hm
theorem Inv.UY{z:Nat}{y:bI}(hy:w.gs[z]?=some y)(hw:aW y)(hp:y.aN= -1)(Ft:∀(j:Nat) u (s':Nat) sd',w.gs[j]?=some u→aT u→u.br=s'→w.ah[s']?=some sd'→sd'.g≠z)(p q f:Int)(b:Bool)(hf:(aP y).ai≠9→f= -1)(hb:(aP y).ai≠9→b=y.bk):Inv (w.ay z {y with point:=p,bF:=q,fire:=f,bk:=b}) ls∧bK w (w.ay z {y with point:=p,bF:=q,fire:=f,bk:=b}):=by
 have e:aP {y with point:=p,bF:=q,fire:=f,bk:=b}=aP y:=rfl;have ew:aW {y with point:=p,bF:=q,fire:=f,bk:=b}↔aW y:=Iff.rfl;have L:=I.loc z y hy;have kM:=iB hw;have Ko:=xZ kM;have K:=I.iQ (x':={y with point:=p,bF:=q,fire:=f,bk:=b}) hy rfl rfl rfl;have W:=I.jU (x':={y with point:=p,bF:=q,fire:=f,bk:=b}) hy (List.Sublist.refl _);refine⟨I.mn hy ?_ (fun k l s sd _ _ _ _ a c=>⟨(K.2.2 _ _).2 a,c⟩) K.1 K.2.1 (fun j u s sd hu cM hc hh hs hg=>aX hg (Ft j u s sd hu hc hh hs)) (fun h=>aX h Ko.1) (fun h=>aX h Ko.2) (fun s h=>?_) W.1 W.2 rfl rfl rfl I.au rfl rfl (I.lock.same hy fun c=>Iff.rfl) rfl rfl rfl (I.st.keep hy id id rfl rfl rfl) (I.jn.keep hy id id (List.Sublist.refl _) id),dW hy rfl,rfl,rfl,rfl,rfl,rfl⟩
 ·exact L.ZJ hw hp p q f b hf hb
 ·simp only at h;omega
theorem Inv.Wp{z s:Nat}{y:bI}{sd:gn}(hy:w.gs[z]?=some y)(hw:aW y)(hp:y.aN= -1)(Ft:∀(j:Nat) u (s':Nat) sd',w.gs[j]?=some u→aT u→u.br=s'→w.ah[s']?=some sd'→sd'.g≠z)(hs:w.ah[s]?=some sd)(hl:sd.cK=true)(hg:sd.g=z)(ho:eP y s sd)(hf:y.fire=sd.case)(B9:(aP y).ai=9→y.bk=true)(Ko:∀(k:Nat) l,ls[k]?=some l→s ∉ l):Inv (w.ay z {y with aN:=s}) ls∧bK w (w.ay z {y with aN:=s}):=by
 have e:aP {y with aN:=(s:Int)}=aP y:=rfl;have ew:aW {y with aN:=(s:Int)}↔aW y:=Iff.rfl;have L:=I.loc z y hy;have kM:=iB hw;have JU:=xZ kM;have K:=I.iQ (x':={y with aN:=(s:Int)}) hy rfl rfl rfl;have W:=I.jU (x':={y with aN:=(s:Int)}) hy (List.Sublist.refl _);refine⟨I.mn hy ?_ (fun k l s' sd' hl' hm hs' Sb a c=>⟨(K.2.2 _ _).2 a,?_⟩) K.1 K.2.1 (fun j u s sd hu cM hc hh hs hg=>aX hg (Ft j u s sd hu hc hh hs)) (fun h=>aX h JU.1) (fun h=>aX h JU.2) (fun s' h=>?_) W.1 W.2 rfl rfl rfl I.au rfl rfl (I.lock.same hy fun c=>Iff.rfl) rfl rfl rfl (I.st.keep hy id (fun _=>bj2) rfl rfl rfl) (I.jn.keep hy id (fun _=>bj2) (List.Sublist.refl _) id),dW hy rfl,rfl,rfl,rfl,rfl,rfl⟩
 ·exact L.Wm hw s B9
 ·rcases c with c|c
  ·exfalso;have e1:y.bY=s':=by rcases a with a|a;exact a.2.1;exact aX a.1 c.1
   have e2:y.bY=s:=(by rcases ho with a|a;exact a.2.1;exact aX a.1 c.1);obtain rfl:s'=s:=oX
   exact Ko k l hl' hm
  ·exact .inr c
 ·simp only at h;obtain rfl:s=s':=by omega
  exact⟨sd,hs,hl,hg,(K.2.2 _ _).2 ho,hf⟩
theorem Inv.Wq{g z:Nat}{x y:bI}(hx:w.gs[g]?=some x)(hp:x.ae=16∨x.ae=22∨x.ae=30∧x.res.aJ=1)(Ow:¬aW x)(hy:w.gs[z]?=some y)(hw:aW y)(hq:0≤y.aN)(hb:∃s,w.ax[z]?=some (s,false)∧(y.ae=14→s=1))(hz:∀(j:Nat) u,w.gs[j]?=some u→(z:Int) ∉ u.wakes):Inv (w.ay g {x with wakes:=x.wakes++[(z:Int)]}) ls∧bK w (w.ay g {x with wakes:=x.wakes++[(z:Int)]}):=by
 have e:aP {x with wakes:=x.wakes++[(z:Int)]}=aP x:=rfl;have ew:aW {x with wakes:=x.wakes++[(z:Int)]}↔aW x:=Iff.rfl;have L:=I.loc g x hx;have JU:¬aT x∧¬bm x:=by unfold aT bm;omega
 have K:=I.iQ (x':={x with wakes:=x.wakes++[(z:Int)]}) hx rfl rfl rfl;obtain⟨s,hb,ff⟩:=hb;have mh:z≠g:=by rintro rfl;rw[hx]at hy;cases hy;exact Ow hw
 refine⟨I.mn hx ?_ (fun k l s sd _ _ _ _ a c=>⟨(K.2.2 _ _).2 a,c⟩) K.1 K.2.1 (fun j u s sd _ _ _ _ _ _ a b c d f=>⟨(K.2.2 _ _).2 a,b,c,d,f,id⟩) (fun h=>aX h JU.1) (fun h=>aX h JU.2) (I.qB hx K.2.2 rfl fun _=>rfl) ?_ ?_ rfl rfl rfl I.au rfl rfl (I.lock.same hx fun c=>Iff.rfl) rfl rfl rfl (I.st.keep hx id id rfl rfl rfl) ?_,dW hx rfl,rfl,rfl,rfl,rfl,rfl⟩
 ·exact L.Wn hp z
 ·rw[tB];exact⟨I.pg g x hx,sX,fun a ha b hb e=>by simp at hb;subst hb;subst e;exact hz g x hx ha⟩
 ·intro j u a hu cM ha hm;rcases List.mem_append.1 hm with h|h
  ·exact cM (I.rf j u g x a hu hx ha h)
  ·simp at h;subst h;exact hz j u hu ha
 ·intro j u a hu ha
  have old:∀(j0:Nat) (u0:bI),w.gs[j0]?=some u0→a∈u0.wakes→∃(i:Nat) (v:bI) (s:Int),a=i∧(w.gs.set g {x with wakes:=x.wakes++[(z:Int)]})[i]?=some v∧aW v∧0≤v.aN∧w.ax[i]?=some (s,false)∧(v.ae=14→s=1):=by
   intro j0 u0 h0 ha0;obtain⟨i,v,s,b0,b1,b2,b3,b4,b5⟩:=I.jn j0 u0 a h0 ha0;by_cases hi:i=g
   ·subst hi;rw[hx]at b1;cases b1;exact aX b2 Ow
   ·exact⟨i,v,s,b0,by rw[gd _ hi];exact b1,b2,b3,b4,b5⟩
  rcases cX hx hu with⟨h1,h2⟩|⟨cM,hu2⟩
  ·subst h2;rcases List.mem_append.1 ha with h|h
   ·exact old g x hx h
   ·simp at h;subst h;exact⟨z,y,s,rfl,by show(w.gs.set g _)[z]?=_;rw[gd _ mh];exact hy,hw,hq,hb,ff⟩
  ·exact old j u hu2 ha
end
end
section
variable{w w':Wd}{ls:List (List Nat)}{g z s:Nat}{x y:bI}{sd:gn}
theorem eQ(n:Nat):nat? (n:Int)=some n:=by unfold nat?;simp
section
variable(hx:w.gs[g]?=some x)(hs:w.ah[s]?=some sd)(hz:sd.g=z)(hy:w.gs[z]?=some y)(cM:z≠g)
include hx hs hz hy cM
theorem sh(hw:x.wakes.length<1000000)(d:Bool):Mach.serve w g s d=some (((w.cJ s {sd with done:=d}).ay z {y with aN:=s}).ay g {x with wakes:=x.wakes++[(z:Int)],br:= -1}):=by
 unfold Mach.serve;simp only[hx,hs,hz,eQ,hy,bW,eN];rw[aE oX]
theorem Kp:Mach.pair w g s=some ((w.ay g {x with point:=x.t,bF:=z}).ay z {y with point:=x.t,bF:=g,fire:=sd.case}):=by
 unfold Mach.pair;simp only[hx,hs,hz,eQ,hy,bW,eN];rw[aE oX]
end
theorem sR(w:Wd){a b:Nat}(h:a≠b)(x y:bI):(w.ay a x).ay b y=(w.ay b y).ay a x:=by
 unfold Wd.ay;simp only[List.set_comm _ _ h]
theorem cY(w:Wd)(a:Nat)(x y:bI):(w.ay a x).ay a y=w.ay a y:=by
 unfold Wd.ay;simp only[my]
theorem mH(hx:w.gs[g]?=some x)(x':bI):(w.ay g x').gs[g]?=some x':=di _ hx
theorem ya{j:Nat}(x':bI)(h:j≠g):(w.ay g x').gs[j]?=w.gs[j]?:=gd _ h
section
variable(I:Inv w ls)
include I
theorem Inv.OX(hx:w.gs[g]?=some x)(hp:x.ae=16∨x.ae=22∨x.ae=30∧x.res.aJ=1)(Ow:¬aW x)(hy:w.gs[z]?=some y)(hw:aW y)(hq:y.aN= -1)(Ft:∀(j:Nat) u (s':Nat) sd',w.gs[j]?=some u→aT u→u.br=s'→w.ah[s']?=some sd'→sd'.g≠z)(hs:w.ah[s]?=some sd)(hl:sd.cK=true)(hg:sd.g=z)(ho:eP y s sd)(hf:y.fire=sd.case)(B9:(aP y).ai=9→y.bk=true)(Ko:∀(k:Nat) l,ls[k]?=some l→s ∉ l):Inv ((w.ay z {y with aN:=s}).ay g {x with wakes:=x.wakes++[(z:Int)]}) ls∧bK w ((w.ay z {y with aN:=s}).ay g {x with wakes:=x.wakes++[(z:Int)]}):=by
 have mh:z≠g:=by rintro rfl;rw[hx]at hy;cases hy;exact Ow hw
 obtain⟨a1,a2⟩:=I.Wo hy hw hq;obtain⟨I1,K1⟩:=I.Wp hy hw hq Ft hs hl hg ho hf B9 Ko
 obtain⟨I2,K2⟩:=I1.Wq (g:=g) (z:=z) (x:=x) (y:={y with aN:=s}) (by rw[ya _ (dE mh)];exact hx) hp Ow (mH hy _) hw bj2 a1 (fun j u hu=>by
  by_cases hj:j=z
  ·subst hj;rw[mH hy]at hu;cases hu;exact a2 _ y hy
  ·rw[ya _ hj]at hu;exact a2 j u hu)
 exact⟨I2,K1.trans K2⟩
theorem Inv.sj(hx:w.gs[g]?=some x):x.wakes.length≤8:=by
 have h:=jy 8 (x.wakes.map Int.toNat) ?_ ?_
 ·rw[ko]at h;exact h
 ·refine List.pairwise_map.2 ((I.pg g x hx).imp_of_mem fun ha hb cM e=>cM ?_);obtain⟨i,_,_,h1,_⟩:=I.jn g x _ hx ha;obtain⟨j,_,_,h2,_⟩:=I.jn g x _ hx hb;omega
 ·intro a ha;obtain⟨b,hb,rfl⟩:=List.mem_map.1 ha;obtain⟨i,y,_,h1,h2,_⟩:=I.jn g x _ hx hb;have:=cA h2;have:=I.n8;omega
theorem za(hg:g<w.gs.length){c:Int}(hc:1≤c∧c≤w.au.length):∃h,w.aq[(c-1).toNat]?=some h∧ek w.aq (c-1) g=if h= -1 then(w.aq.set (c-1).toNat g,true)else(w.aq,false):=by
 obtain⟨h,hh⟩:∃h,w.aq[(c-1).toNat]?=some h:=⟨_,fv (by have:=I.aq;omega)⟩;refine⟨h,hh,?_⟩;unfold ek idx;rw[aF (show 0≤c-1 by omega),hh];by_cases e:h= -1
 ·rw[aF ⟨oX,oX,bt7⟩,aF e]
 ·rw[aE (fun k=>e (mx k.2.2)),aE e]
theorem Fv(hx:w.gs[g]?=some x){c:Int}(hc:1≤c∧c≤w.au.length)(hh:aL x c):w.aq[(c-1).toNat]?=some (g:Int)∧oB w.aq (c-1) g=(w.aq.set (c-1).toNat (-1),true):=by
 obtain⟨h,h1⟩:∃h,w.aq[(c-1).toNat]?=some h:=⟨_,fv (by have:=I.aq;omega)⟩;have e:(((c-1).toNat:Int)+1)=c:=oX
 have h2:=((I.lock _ _ h1).2.2 g x hx).1 (by rw[e];exact hh);subst h2;refine⟨h1,?_⟩;unfold oB idx;rw[aF (show 0≤c-1 by omega),h1,aF ⟨oX,oX,rfl⟩]
end
section
variable(I:Inv w ls)(hx:w.gs[g]?=some x)(hs:Na w g){x':bI}(M:lH x x')(p:(x'.ae=14→x.ae=14)∧x'.ae≠19)(hL:Loc w.au.length x'){c:Int}(hc:1≤c∧c≤w.au.length)
include I hx hs M p hL hc
theorem Inv.XK(hh:∀d,aL x' d↔aL x d∨d=c)(ho:x'.ops=x.ops)(hl:w.aq[(c-1).toNat]?=some (-1)):Inv (({w with aq:=w.aq.set (c-1).toNat g}:Wd).ay g x') ls∧bK w (({w with aq:=w.aq.set (c-1).toNat g}:Wd).ay g x'):=by
 refine⟨I.frame hx hs M p.1 p.2 hL rfl rfl rfl I.au rfl bp6 (I.lock.acquire hx hl (fun d=>?_)) rfl rfl rfl,dW hx ho,rfl,rfl,rfl,rfl,rfl⟩;have e:(((c-1).toNat:Int)+1)=c:=oX
 rw[e];exact hh d
theorem Inv.rel(hh:∀d,aL x' d↔aL x d∧d≠c)(ho:x'.ops=x.ops)(hl:aL x c):free w (c-1) g={w with aq:=w.aq.set (c-1).toNat (-1)}∧Inv (({w with aq:=w.aq.set (c-1).toNat (-1)}:Wd).ay g x') ls∧bK w (({w with aq:=w.aq.set (c-1).toNat (-1)}:Wd).ay g x'):=by
 obtain⟨f1,f2⟩:=Fv I hx hc hl;refine⟨by unfold Mach.free;rw[f2],I.frame hx hs M p.1 p.2 hL rfl rfl rfl I.au rfl bp6 (I.lock.release hx f1 (fun d=>?_)) rfl rfl rfl,dW hx ho,rfl,rfl,rfl,rfl,rfl⟩;have e:(((c-1).toNat:Int)+1)=c:=oX
 rw[e];exact hh d
end
end
section
variable{w w':Wd}{ls:List (List Nat)}{g:Nat}{x x':bI}
theorem FE{C:Nat}(hk:(aP x).ai=9){c:Int}(hc:c∈x.aq.take (bC x)):aL x c:=by unfold aL;rw[aF hk];exact hc
theorem aW2(I:Inv w ls)(hx:w.gs[g]?=some x)(hs:Na w g)(hk:(aP x).ai=9)(p:Int)(hp:x.ae=24∧p=25∨x.ae=31∧p=32):∃w',jt w g p=some w'∧Inv w' ls∧bK w w':=by
 have L:=I.loc g x hx;obtain⟨s1,s2,s3⟩:=L.oW hk oX oX oX oX;have kE:=s2.1 oX;have hg:g<w.gs.length:=cA hx;obtain⟨l,hl⟩:∃l,x.aq[x.k.toNat]?=some l:=⟨_,fv oX⟩;have IF:=s1.lk l (lf hl)
 have cP:x.aq.length≤8:=by
  have h:=jy 9 (x.aq.map Int.toNat) ?_ ?_
  ·rw[ko]at h;have:=jy 8 (x.aq.map fun z=>(z-1).toNat) ?_ ?_
   ·rw[ko]at this;exact this
   ·exact bc5
   ·exact bf6
  ·exact bc5
  ·exact bf6
 have ei:idx x.aq x.k=some l:=by unfold idx;rw[aF kE.1];exact hl
 have okl:kJ l=true:=by unfold kJ;simp;have:=I.c8;omega
 have Dn:kJ x.k=true:=bl3
 obtain⟨h,h1,h2⟩:=za I hg IF;unfold jt;simp only[hx,ei,okl,bW,eN,aH6,dF,h2];by_cases e:h= -1
 ·subst e;simp only[dt,aH6,dF,Dn];have rel:∀{c:Int},(aL x c∨x.aq[x.k.toNat]?=some c)↔(aL x c∨c=l):=fun {c}=>by rw[hl];simp only[oZ];exact or_congr Iff.rfl ⟨fun h=>h.symm,fun h=>h.symm⟩
  by_cases j7:x.k+1=x.aq.length
  ·rw[aF j7];rcases hp with⟨hp,rfl⟩|⟨hp,rfl⟩
   ·obtain⟨m1,m2,m3⟩:=M.am4 L hk hp j7;exact be7
   ·obtain⟨m1,m2,m3⟩:=M.am6 L hk hp j7;exact be7
  ·rw[aE j7];rcases hp with⟨hp,rfl⟩|⟨hp,rfl⟩
   ·obtain⟨m1,m2,m3⟩:=M.am3 L hk hp oX;exact bd7
   ·obtain⟨m1,m2,m3⟩:=M.am5 L hk hp oX;exact bd7
 ·simp only[aE e,nW,dt];exact⟨w,rfl,I,bK.refl w⟩
end
end V
def fI(l:List Int)(d:Int):Nat→List Int×Int
 |0=>([],d)
 |k+1=>((fI l d k).1++[(gw l (fI l d k).2 ((k:Int)+1)).1],(gw l (fI l d k).2 ((k:Int)+1)).2)
theorem ke(l:List Int)(d:Int)(k:Nat):(fI l d k).1.length=k:=by
 induction k with
 |zero=>rfl
 |succ k ih=>simp[fI,ih]
theorem u4(l:List Int):∀(n i:Nat) (d:Int),gy l d i (n+1)=((gy l d i n).1++[(gw l (gy l d i n).2 ((i:Int)+n+1)).1],(gw l (gy l d i n).2 ((i:Int)+n+1)).2)
 |0,i,d=>by simp[gy]
 |n+1,i,d=>by
  rw[gy,u4 l n (i+1)];conv=>rhs;rw[gy]
  have e:(((i+1:Nat):Int)+(n:Int)+1)=((i:Int)+((n+1:Nat):Int)+1):=oX
  simp only[e,sY]
theorem I6(l:List Int)(d:Int)(n:Nat):gy l d 0 n=fI l d n:=by
 induction n with
 |zero=>rfl
 |succ k ih=>
  rw[u4,ih];simp[fI]
theorem Mn(l:List Int)(i j:Nat):ND l i j=iO l i j:=rfl
theorem PH(ds:List Int)(k:Nat):kB ds k=rz ds k:=by
 induction k with
 |zero=>rfl
 |succ k ih=>simp only[kB,rz,ih,Mn]
theorem u5(x:Int)(l:List Int):(ji x l).Perm (x::l):=by
 induction l with
 |nil=>exact .refl _
 |cons y l ih=>
  unfold ji;split
  ·exact .refl _
  ·exact(List.Perm.cons y ih).trans (List.Perm.swap x y l)
theorem zr(x:Int)(l:List Int)(h:l.Pairwise (· ≤·)):(ji x l).Pairwise (· ≤·):=by
 induction l with
 |nil=>simp[ji]
 |cons y l ih=>
  unfold ji;rw[List.pairwise_cons]at h;split
  ·rename_i hxy;rw[List.pairwise_cons];refine⟨fun z hz=>?_,List.pairwise_cons.2 h⟩;rcases iL.1 hz with rfl|hz
   ·exact hxy
   ·have:=h.1 z hz;omega
  ·rename_i hxy;rw[List.pairwise_cons];refine⟨fun z hz=>?_,ih h.2⟩;rcases iL.1 ((u5 x l).mem_iff.1 hz)with rfl|hz
   ·omega
   ·exact h.1 z hz
theorem zt(l:List Int):(l.foldr ji []).Perm l:=by
 induction l with
 |nil=>exact .refl _
 |cons x l ih=>exact(u5 x _).trans (ih.cons x)
theorem u6(l:List Int):(l.foldr ji []).Pairwise (· ≤·):=by
 induction l with
 |nil=>simp
 |cons x l ih=>exact zr x _ ih
theorem DF:jL=oK:=rfl
theorem I7(l:List Int):kf l=rZ l:=by
 unfold kf rZ fb;rw[EO (zt l) (u6 l),DF,yl (by rw[lI];exact Nat.le_refl _)]
theorem DG(l:List Int)(d:Int)(k:Nat):d≤(fI l d k).2∧(fI l d k).2≤d+k:=by
 induction k with
 |zero=>simp[fI]
 |succ k ih=>
  simp only[fI];unfold gw;split<;>simp<;>omega
namespace V
theorem qO(ds:List Int):∀k,(kB ds k).Perm ((List.range k).map fun i:Nat=>(i:Int))
 |0=>by simp[kB]
 |k+1=>by
  have ih:=qO ds k;have hl:(kB ds k).length=k:=by rw[ih.length_eq];simp
  unfold kB;rw[List.range_succ,List.map_append];refine(tF _ _ _ (by simp[hl]) ?_).trans (ih.append_right _);have h1:=Int.emod_nonneg (ds.getD k 0) (b:=(k:Int)+1) oX;have h2:=Int.emod_lt_of_pos (ds.getD k 0) (b:=(k:Int)+1) oX;simp only[py,hl,sV,List.length_nil];omega
theorem FZ(ds:List Int)(k:Nat):(kB ds k).Nodup:=by
 refine(qO ds k).nodup_iff.2 ?_;refine List.pairwise_map.2 (List.nodup_range.imp fun h e=>h oX)
theorem mX:∀(l out:List Int),l.Pairwise (· ≤·)→out.Pairwise (· <·)→(∀a∈out,0<a)→(∀a∈out,∀b∈l,a≤b)→(l.foldl jL out).Pairwise (· <·)∧∀v,v∈l.foldl jL out↔v∈out∨(v∈l∧0<v)
 | [],out,_,h2,_,_=>⟨h2,fun v=>sX⟩
 |x::l,out,h1,h2,h3,h4=>by
  rw[List.pairwise_cons]at h1;rw[List.foldl_cons];unfold jL;by_cases hx:x≤0
  ·rw[aF hx];obtain⟨a,b⟩:=mX l out h1.2 h2 h3 (fun a ha b hb=>h4 a ha b (nO _ hb));refine⟨a,fun v=>(b v).trans ?_⟩;simp only[iL];constructor
   ·rintro(h|⟨h,h'⟩)
    ·exact .inl h
    ·exact .inr ⟨.inr h,h'⟩
   ·rintro(h|⟨h|h,h'⟩)
    ·exact .inl h
    ·omega
    ·exact .inr ⟨h,h'⟩
  ·rw[aE hx];by_cases hl:0<out.length∧out.getD (out.length-1) 0=x
   ·rw[aF hl];have hxm:x∈out:=(by rw[←hl.2,yk,fv oX];exact List.getElem_mem _);obtain⟨a,b⟩:=mX l out h1.2 h2 h3 (fun a ha b hb=>h4 a ha b (nO _ hb));refine⟨a,fun v=>(b v).trans ?_⟩;simp only[iL];constructor
    ·rintro(h|⟨h,h'⟩)
     ·exact .inl h
     ·exact .inr ⟨.inr h,h'⟩
    ·rintro(h|⟨h|h,h'⟩)
     ·exact .inl h
     ·subst h;exact .inl hxm
     ·exact .inr ⟨h,h'⟩
   ·rw[aE hl]
    have dD:∀a∈out,a<x:=by
     intro a ha;have hle:=h4 a ha x sX;by_cases e:a=x
     ·exfalso;obtain⟨j,hj,hja⟩:=List.getElem_of_mem ha;have j7:out.getD (out.length-1) 0=out[out.length-1]' oX:=(by rw[yk,fv oX];rfl);have h5:out[out.length-1]' oX≤x:=h4 _ (List.getElem_mem _) x sX;by_cases vy:j=out.length-1
      ·exact hl ⟨oX,by rw[j7];subst vy;omega⟩
      ·have:=List.pairwise_iff_getElem.1 h2 j (out.length-1) hj oX oX;omega
     ·omega
    obtain⟨a,b⟩:=mX l (out++[x]) h1.2 (by
      rw[List.pairwise_append];exact⟨h2,sX,fun a ha b hb=>by simp at hb;subst hb;exact dD a ha⟩) (fun a ha=>by
      rcases List.mem_append.1 ha with h|h
      ·exact h3 a h
      ·simp at h;omega) (fun a ha b hb=>by
      rcases List.mem_append.1 ha with h|h
      ·exact h4 a h b (nO _ hb)
      ·simp at h;subst h;exact h1.1 b hb)
    refine⟨a,fun v=>(b v).trans ?_⟩;simp only[List.mem_append,iL,List.not_mem_nil,or_false];constructor
    ·rintro((h|h)|⟨h,h'⟩)
     ·exact .inl h
     ·exact .inr ⟨.inl h,oX⟩
     ·exact .inr ⟨.inr h,h'⟩
    ·rintro(h|⟨h|h,h'⟩)
     ·exact .inl (.inl h)
     ·exact .inl (.inr h)
     ·exact .inr ⟨h,h'⟩
theorem DH(l:List Int):(kf l).Pairwise (· <·)∧∀v,v∈kf l↔v∈l∧0<v:=by
 obtain⟨a,b⟩:=mX (l.foldr ji []) [] (u6 l) sX sX sX;refine⟨a,fun v=>(b v).trans ?_⟩;simp only[List.not_mem_nil,false_or];rw[(zt l).mem_iff]
end V
open Go.RowKit Go.Proofs.Tryz
section
variable{af:Nat}{F:Fx}{w w0 w':World}{m m0 m':Mem}{S S':Wd}{L:List (Nat×Obj)}
theorem yL{o:Option Nat}{c:Nat}{l:List Int}:∀r',r'≠bH.dQ→r'≠ .dY→aj (m.eG .dQ o c) {S with aq:=l} r'=aj m S r':=by
 intro r' h1 h2;have hu:∀r,r≠bH.dQ→∀n,(m.eG .dQ o c).cU r n=m.cU r n:=fun r hr n=>Mem.qv m o c n hr
 cases r'<;>first
  |exact aX rfl h1
  |exact aX rfl h2
  |rfl
  |(simp only[aj,gk,Cu,je,Mem.sL _ _ _ (show bH.au≠ .dQ by simp),hu _ (show _≠bH.dQ by simp),ne_eq,reduceCtorEq,not_false_eq_true];done)
theorem At.LH{w1:World}(A:At af F m0 w0 m w S){g c:Nat}{l:List Int}(hg:w.grownBy w1 (m.aV .dQ))(hown:w1.ownsRow af 3 1 (.slice (some ⟨g,0,none⟩) l.length c) l.length (l.map I))(bE:m.aV .dQ=some g∨w.heap.size≤g):At af F m0 w0 (m.eG .dQ (some g) c) (w1.setCell ⟨F.dY,0,none⟩ (.slice (some ⟨g,0,none⟩) l.length c)) {S with aq:=l}:=
 A.row (r:=.dQ) (p:=(3,1)) rfl bj8 A.bj.aB.dY sX hg hown bE rfl (by simp only[aj,Mem.uH];rfl) yL
theorem yM{o:Option Nat}{c:Nat}{l:List Bool}:∀r',r'≠bH.aO→r'≠ .al→aj (m.eG .aO o c) {S with aO:=l} r'=aj m S r':=by
 intro r' h1 h2;have hu:∀r,r≠bH.aO→∀n,(m.eG .aO o c).cU r n=m.cU r n:=fun r hr n=>Mem.qv m o c n hr
 cases r'<;>first
  |exact aX rfl h1
  |exact aX rfl h2
  |rfl
  |(simp only[aj,gk,Cu,je,Mem.sL _ _ _ (show bH.au≠ .aO by simp),hu _ (show _≠bH.aO by simp),ne_eq,reduceCtorEq,not_false_eq_true];done)
theorem At.BP{w1:World}(A:At af F m0 w0 m w S){g c:Nat}{l:List Bool}(hg:w.grownBy w1 (m.aV .aO))(hown:w1.ownsRow af 4 1 (.slice (some ⟨g,0,none⟩) l.length c) l.length (l.map B))(bE:m.aV .aO=some g∨w.heap.size≤g):At af F m0 w0 (m.eG .aO (some g) c) (w1.setCell ⟨F.al,6,none⟩ (.slice (some ⟨g,0,none⟩) l.length c)) {S with aO:=l}:=
 A.row (r:=.aO) (p:=(4,1)) rfl bj8 A.bj.aB.al sX hg hown bE rfl (by simp only[aj,Mem.cU,Mem.ptr,Mem.eG,reduceCtorEq,dF,dt];rfl) yM
theorem CX{w2 W3 w3:World}{gg cap:Nat}{v:Value}{o:Obj}{z:Int}(A:At af F m0 w0 m w2 S)(hW:W3=w2.alloc o)(jz:v.ownBlock=m.aV .dQ)(ho:w3.ownsRow af 3 1 (.slice (some ⟨gg,0,none⟩) (S.aq.length+1) cap) (S.aq.length+1) (S.aq.map I++[I z]))(hg:W3.grownBy w3 v.ownBlock)(hw:v.ownBlock=some gg∨W3.heap.size≤gg):At af F m0 w0 (m.eG .dQ (some gg) cap) (w3.setCell ⟨F.dY,0,none⟩ (.slice (some ⟨gg,0,none⟩) (S.aq.length+1) cap)) {S with aq:=S.aq++[z]}:=by
 subst hW;rw[jz]at hg hw;have hl:(S.aq++[z]).length=S.aq.length+1:=sX
 have h:=(A.alloc o).LH (l:=S.aq++[z]) (g:=gg) (c:=cap) hg (by rw[hl,List.map_append];exact ho) hw;rw[hl]at h;exact h
theorem AM(R:bz af F w m S)(hl:S.aq.length≤4000):Calls prog 202 #[.pointer (some ⟨F.dY,0,none⟩)] w (eL (I S.aq.length) fun w'=>To af F m w {S with aq:=S.aq++[-1]} w'):=by
 obtain⟨i0,hi,fV,gF,gG⟩:=info_parts lC;have c0:=R.sM;have Ol:=R.lt R.aB.dY;have HA:=ag (At.refl R);obtain⟨n,hn⟩:=dC (S.aq.length);obtain⟨a,c,hh⟩:=lL R;obtain⟨v,hv⟩:=dC (m.cU .dQ S.aq.length);have hown:=R.owns (r:=.dQ) (p:=(3,1)) rfl dX (n:=n) (by simp only[aj,ko];omega);rw[hn,←hv,←hn]at hown;have Kc:Hid (v.ownBlock=m.aV .dQ):=by rw[hv,Mem.mM];exact ag rfl
 have E8:Hid (v.ownBlock≠some F.dY):=by rw[Kc.out];exact R.jv R.aB.dY sX
 have hvs:v=.slice a n c:=by rw[hv,hh,hn]
 rw[hh,←hn]at c0;rw[hvs]at hown Kc E8;have fc0:=R.frozen R.aB.dY 0;have HO:=ag hown;have HN:=ag hn;have qq:=R.eS;have hb:decide ((4096:Int)≤(n:Int))=false:=bi8
 rw[←hn]at hl ⊢;clear R hv hvs hh hown hn;go_enter func202,ntmps202;go_wp2_with (at_builtin;go_loud (refine jw (us:=#[I (-1)]) (w2:=w) rfl (.tmp 13) (.tmp 14) 28 rfl underlying28 hi fV gF gG rfl dX dX rfl rfl (aI8 (-1)) (.slice a n c) n _ rfl HO rfl oX qq ?_));intro gg cap w3 ah8 bX bE;have d0:=fW (o:=.cells #[I (-1)] 3) bX c0 rfl E8;have fd0:=fN (o:=.cells #[I (-1)] 3) bX fc0 Ol rfl E8;have HC:=ag (CX (z:= -1) HA rfl Kc (by rw[←HN.out];exact ah8) bX (by simpa using bE));rw[←HN.out]at HC;clear ah8 bX bE;go_wp2;go_ret;trace_state;exact⟨rfl,_,HC⟩
end
section
variable{af b j:Nat}{F:Fx}{w w' w0:World}{m m0:Mem}{S S':Wd}{r:bH}{v:Value}
theorem At.aa5(A:At af F m0 w0 m w S){c:Nat}{arr:Array Value}{t:TypeId}(hl:r.loose=true)(nI:eI r=none)(h0:aj m S r=[])(hb:w.heap[b]?=some (.cells arr t (0,0)))(hbase:af≤b)(hn:∀r',m.aV r'≠some b)(Mi:w0.heap.size≤b)(hc:∀r',aj (m.eG r (some b) c) S r'=aj m S r'):At af F m0 w0 (m.eG r (some b) c) w S:=by
 refine⟨⟨A.mv.os,A.mv.tape,A.mv.output,A.mv.size,A.mv.keep,fun r' b' ff=>?_⟩,⟨fun r1 r2 b' h1 h2=>?_,fun r' b' ff=>?_,fun r' hT=>?_,A.bj.aB.eG hl _ _⟩⟩
 ·by_cases e:r'=r
  ·subst e;rw[Mem.dL]at ff;cases ff;exact .inr Mi
  ·rw[Mem.bN _ _ _ e]at ff;exact A.mv.old _ _ ff
 ·by_cases e1:r1=r<;>by_cases e2:r2=r
  ·rw[e1,e2]
  ·subst e1;rw[Mem.dL]at h1;rw[Mem.bN _ _ _ e2]at h2
   cases h1;exact aX h2 (hn r2)
  ·subst e2;rw[Mem.dL]at h2;rw[Mem.bN _ _ _ e1]at h1
   cases h2;exact aX h1 (hn r1)
  ·exact bg3
 ·rw[hc];by_cases e:r'=r
  ·subst e;rw[Mem.dL]at ff
   cases ff;rw[Mem.xM,h0,nI];exact⟨hbase,arr,t,hb,sX,sX,fun p hp=>by cases hp⟩
  ·rw[Mem.bN _ _ _ e]at ff;rw[Mem.rH _ _ _ e];exact A.bj.lies r' b' ff
 ·rw[hc];by_cases e:r'=r
  ·subst e;exact h0
  ·rw[Mem.bN _ _ _ e]at hT;exact A.bj.none_ r' hT
section
variable{o:Option Nat}{c k:Nat}(hk:S.au.length≤k)
include hk
theorem wF:∀r',aj (m.eG (.eU k) o c) S r'=aj m S r':=by
 intro r';have hu:∀r,r≠bH.eU k→∀n,(m.eG (.eU k) o c).cU r n=m.cU r n:=fun r hr n=>Mem.qv m o c n hr
 have hp:∀r,r≠bH.eU k→(m.eG (.eU k) o c).ptr r=m.ptr r:=fun r hr=>Mem.sL m o c hr
 cases r' with
 |au=>
  simp only[aj];apply List.map_congr_left;intro i hi;rw[List.mem_range]at hi;exact hp _ bi8
 |_=>first
  |rfl
  |(simp only[aj,gk,Cu,je,hp _ (show _≠bH.eU k by simp),hu _ (show _≠bH.eU k by simp),ne_eq,reduceCtorEq,not_false_eq_true];done)
theorem ue:∀r',aj (m.eG (.places k) o c) S r'=aj m S r':=by
 intro r';have hu:∀r,r≠bH.places k→∀n,(m.eG (.places k) o c).cU r n=m.cU r n:=fun r hr n=>Mem.qv m o c n hr
 have hp:∀r,r≠bH.places k→(m.eG (.places k) o c).ptr r=m.ptr r:=fun r hr=>Mem.sL m o c hr
 cases r' with
 |eU i=>
  simp only[aj]
  cases h:S.au[i]? with
  |none=>rfl
  |some r=>
   have:=cA h;simp only[hu (.places i) bi8]
 |_=>first
  |rfl
  |(simp only[aj,gk,Cu,je,hp _ (show _≠bH.places k by simp),hu _ (show _≠bH.places k by simp),ne_eq,reduceCtorEq,not_false_eq_true];done)
end
def Mem.fR(m:Mem)(k rb pb n:Nat):Mem:=(m.eG (.eU k) (some rb) 0).eG (.places k) (some pb) n
theorem ug(m:Mem)(k rb pb n:Nat)(r:bH)(h1:r≠ .eU k)(h2:r≠ .places k):(m.fR k rb pb n).aV r=m.aV r:=by
 unfold Mem.fR;rw[Mem.bN _ _ _ h2,Mem.bN _ _ _ h1]
theorem pq(m:Mem)(k rb pb n:Nat):(m.fR k rb pb n).aV (.eU k)=some rb:=by
 unfold Mem.fR;rw[Mem.bN _ _ _ sX,Mem.dL]
theorem mY(m:Mem)(k rb pb n:Nat):(m.fR k rb pb n).aV (.places k)=some pb:=by
 unfold Mem.fR;rw[Mem.dL]
section
variable(A:At af F m0 w0 m w S){n rb pb:Nat}(hr:w.heap[rb]?=some (.cells #[.slice (some ⟨pb,0,none⟩) n n,I 0,I 0] 159 (0,0)))(hp:w.heap[pb]?=some (.cells (List.replicate n (I 0)).toArray 2 (0,0)))(cM:rb≠pb)(h1:af≤rb)(h2:af≤pb)(h3:∀r',m.aV r'≠some rb)(h4:∀r',m.aV r'≠some pb)(h5:w0.heap.size≤rb)(h6:w0.heap.size≤pb)
include A hr hp cM h1 h2 h3 h4 h5 h6
theorem At.P6:At af F m0 w0 (m.fR S.au.length rb pb n) w S:=by
 have U9:S.au[S.au.length]?=none:=rq cG;have A1:=A.aa5 (r:=.eU S.au.length) (c:=0) rfl rfl (by simp only[aj,U9]) hr h1 h3 h5 (wF cG);refine A1.aa5 (r:=.places S.au.length) (c:=n) rfl rfl (by simp only[aj,U9]) hp h2 (fun r'=>?_) h6 (ue cG);by_cases e:r'=.eU S.au.length
 ·subst e;rw[Mem.dL];intro h;exact cM (mx h)
 ·rw[Mem.bN _ _ _ e];exact h4 r'
theorem At.yc{w1:World}{g c:Nat}(hg:w.grownBy w1 (m.aV .au))(hown:w1.ownsRow af 118 1 (.slice (some ⟨g,0,none⟩) (S.au.length+1) c) (S.au.length+1) (aj m S .au++[.pointer (some ⟨rb,0,none⟩)]))(bE:m.aV .au=some g∨w.heap.size≤g):At af F m0 w0 ((m.fR S.au.length rb pb n).eG .au (some g) c) (w1.setCell ⟨F.al,5,none⟩ (.slice (some ⟨g,0,none⟩) (S.au.length+1) c)) {S with au:=S.au++[{places:=List.replicate n 0}]}:=by
 have A2:=A.P6 hr hp cM h1 h2 h3 h4 h5 h6;have Mu:(m.fR S.au.length rb pb n).aV .au=m.aV .au:=ug _ _ _ _ _ _ sX sX;have hu:∀r,r≠bH.au→∀q,((m.fR S.au.length rb pb n).eG .au (some g) c).cU r q=(m.fR S.au.length rb pb n).cU r q:=fun r hr q=>Mem.qv _ _ _ _ hr
 have zD:∀r,r≠bH.au→((m.fR S.au.length rb pb n).eG .au (some g) c).ptr r=(m.fR S.au.length rb pb n).ptr r:=fun r hr=>Mem.sL _ _ _ hr
 refine A2.ar7 (r:=.au) (p:=(118,1)) rfl bj8 A2.bj.aB.al sX (by rw[Mu];exact hg) hown (by rw[Mu];exact bE) ?_ ?_ ?_
 ·simp only[aj,py,sV,List.length_nil,Nat.zero_add];rw[List.range_succ,List.map_append];congr 1
  ·apply List.map_congr_left;intro i hi;rw[List.mem_range]at hi;rw[zD _ sX];unfold Mem.ptr;rw[ug _ _ _ _ _ _ bi8 sX]
  ·simp only[List.map_cons,List.map_nil];rw[zD _ sX,Mem.lz (pq _ _ _ _ _)]
 ·simp only[aj,hu _ (show bH.gs≠ .au by simp),zD _ (show bH.dB≠ .au by simp),hu _ (show bH.aO≠ .au by simp),zD _ (show bH.dY≠ .au by simp),zD _ (show bH.aw≠ .au by simp),hu _ (show bH.ah≠ .au by simp),zD _ (show bH.Eg≠ .au by simp),zD _ (show bH.gN≠ .au by simp),hu _ (show bH.draws≠ .au by simp),hu _ (show bH.done≠ .au by simp),Mem.uH,py,sV,List.length_nil,Nat.zero_add];rfl
 ·intro r' e1 e2
  cases r' with
  |au=>exact aX rfl e1
  |al=>exact aX rfl e2
  |eU i=>
   by_cases e:i=S.au.length
   ·subst e;refine .inr ⟨by rw[pq];simp,fun b' ff=>?_⟩;rw[pq]at ff
    cases ff;have hc:aj ((m.fR S.au.length rb pb n).eG .au (some g) c) {S with au:=S.au++[{places:=List.replicate n 0}]} (.eU S.au.length)=[.slice (some ⟨pb,0,none⟩) n n,I 0,I 0]:=by simp only[aj,Ew cG,Nat.sub_self,List.getElem?_cons_zero];rw[hu _ sX,Mem.de (mY _ _ _ _ _)];simp[Mem.fR,Mem.eG]
    rw[hc];exact⟨_,_,hr,sX,sX,fun p hp=>by cases hp⟩
   ·refine .inl ?_;simp only[aj]
    have hi:(S.au++[({places:=List.replicate n 0}:Ring)])[i]?=S.au[i]?:=by
     exact bf8
    rw[hi]
    cases S.au[i]? with
    |none=>rfl
    |some r=>simp only[hu _ (show bH.places i≠ .au by simp)]
  |places i=>
   by_cases e:i=S.au.length
   ·subst e;refine .inr ⟨by rw[mY];simp,fun b' ff=>?_⟩;rw[mY]at ff
    cases ff;have hc:aj ((m.fR S.au.length rb pb n).eG .au (some g) c) {S with au:=S.au++[{places:=List.replicate n 0}]} (.places S.au.length)=List.replicate n (I 0):=by simp only[aj,Ew cG,Nat.sub_self,List.getElem?_cons_zero];simp
    rw[hc];exact⟨_,_,hp,sX,yl sX,fun p hp=>by cases hp⟩
   ·refine .inl ?_;simp only[aj]
    have hi:(S.au++[({places:=List.replicate n 0}:Ring)])[i]?=S.au[i]?:=by
     exact bf8
    rw[hi]
  |_=>first
   |exact .inl rfl
   |exact .inl (by simp only[aj,gk,Cu,je,hu _ (show _≠bH.au by simp),zD _ (show _≠bH.au by simp),ne_eq,reduceCtorEq,not_false_eq_true])
end
end
theorem KF:(prog.info? 118).map (fun i=>(i.zero,i.size,i.bytes))=some (some (.pointer none),1,8):=kX
theorem P7:(prog.info? 4).map (fun i=>(i.zero,i.size,i.bytes))=some (some (B false),1,1):=kX
theorem underlying87:prog.underlying 87=some (.slice 118):=kX
theorem underlying88:prog.underlying 88=some (.slice 4):=kX
theorem xi{fn:Func}{p:Tmp}(h:fn.results=#[.cell p 44])(tmps:Array Value)(w:World)(b:Nat)(v0 v1 v2 v3 v4:Value)(fr:Nat×Nat)(hp:tmps.getD p undef=.pointer (some ⟨b,0,none⟩))(hg:w.heap[b]?=some (.cells #[v0,v1,v2,v3,v4] 44 fr)):(results fn tmps).run prog w=.ok (.agg #[v0,v1,v2,v3,v4]) w:=by
 exact aX1
section
variable{af:Nat}{F:Fx}{w w0 w':World}{m m0 m':Mem}{S S':Wd}{L:List (Nat×Obj)}
theorem Be(R:bz af F w m S)(room:Int)(h8:8≤S.au.length):Calls prog 142 #[bR F,I room] w (eL (.agg #[I 7,I (-1),I 0,B false,I 0]) fun w'=>At af F m w m w' S):=by
 have c5:=R.qx;obtain⟨a,c,hh⟩:=R.shape (r:=.au) (n:=S.au.length) bn5;rw[hh]at c5;obtain⟨n,hn⟩:=dC (S.au.length);rw[←hn]at c5 h8;have hb:decide ((8:Int)≤(n:Int))=true:=bi8
 have WM:=R.lt R.aB.al;have HA:=ag (At.refl R);clear R hh hn;unfold bR;go_enter func142,ntmps142;go_wp2;refine bodyPost_ret (xi rfl _ _ w.heap.size _ _ _ _ _ (0,0) rfl (dP w _)) rfl ?_;exact⟨rfl,HA.out.alloc _⟩
theorem AB.yc{b0:Nat}{ob:Obj}(X:AB af F m0 w0 m w S [(b0,ob)]){buf:Obj}{n rb pb:Nat}(hr:w.heap[rb]?=some (.cells #[.slice (some ⟨pb,0,none⟩) n n,I 0,I 0] 159 (0,0)))(hp:w.heap[pb]?=some (.cells (List.replicate n (I 0)).toArray 2 (0,0)))(cM:rb≠pb)(h1:af≤rb)(h2:af≤pb)(h3:∀r',m.aV r'≠some rb)(h4:∀r',m.aV r'≠some pb)(h5:w0.heap.size≤rb)(h6:w0.heap.size≤pb)(oH:rb≠b0)(gq:pb≠b0){w1:World}{g c:Nat}(hg:(w.alloc buf).grownBy w1 (m.aV .au))(hown:w1.ownsRow af 118 1 (.slice (some ⟨g,0,none⟩) (S.au.length+1) c) (S.au.length+1) (aj m S .au++[.pointer (some ⟨rb,0,none⟩)]))(bE:m.aV .au=some g∨(w.alloc buf).heap.size≤g):AB af F m0 w0 ((m.fR S.au.length rb pb n).eG .au (some g) c) (w1.setCell ⟨F.al,5,none⟩ (.slice (some ⟨g,0,none⟩) (S.au.length+1) c)) {S with au:=S.au++[{places:=List.replicate n 0}]} [(b0,ob)]:=by
 have IF:rb<w.heap.size:=(dh hr).1;have hlp:pb<w.heap.size:=(dh hp).1;have Fu:b0<w.heap.size:=(dh X.head).1;have r8:=(X.loc _ (rn ..)).2;refine⟨(X.at_.alloc buf).yc (by rw[gf w _ _ IF];exact hr) (by rw[gf w _ _ hlp];exact hp) cM h1 h2 h3 h4 h5 h6 hg hown bE,fun p hp=>?_⟩;simp at hp;subst hp;refine⟨?_,fun r e=>?_⟩
 ·show(w1.setCell _ _).heap[b0]?=_;rw[fQ _ _ _ _ (fun e=>r8 .al (by rw[X.bj.aB.al,e]))];rw[hg.block b0 bi8 (fun e=>r8 .au e.symm),gf w _ _ Fu];exact X.head
 ·have e:((m.fR S.au.length rb pb n).eG .au (some g) c).aV r=some b0:=e;by_cases e1:r=.au
  ·subst e1;rw[Mem.dL]at e
   cases e;rcases bE with h|h
   ·exact r8 .au h
   ·simp at h;omega
  ·rw[Mem.bN _ _ _ e1]at e;by_cases e2:r=.eU S.au.length
   ·subst e2;rw[pq]at e;cases e;exact oH rfl
   ·by_cases e3:r=.places S.au.length
    ·subst e3;rw[mY]at e;cases e;exact gq rfl
    ·rw[ug _ _ _ _ _ _ e2 e3]at e;exact r8 r e
structure Own(m:Mem)(H:Nat)(L:List (Nat×Obj))(w:World)(v:Value)(n:Nat)(xs:List Int):Prop where
 own:w.ownsRow H 3 1 v n (xs.map I)
 free:∀g,v.ownBlock=some g→(∀r,m.aV r≠some g)∧∀p∈L,p.1≠g
section
variable{H n:Nat}{v:Value}{xs:List Int}(h:Own m H L w v n xs)
include h
theorem Own.shape:∃a c,v=.slice a n c:=by
 rcases h.own.2 with⟨h1,h2⟩|⟨g,cap,cur,h1,_⟩
 ·exact⟨none,0,by rw[h1,h2]⟩
 ·exact⟨_,_,h1⟩
theorem Own.len:xs.length=n:=by
 have:=h.own.1;simpa using this
end
theorem Own.nil(m:Mem)(H:Nat)(L:List (Nat×Obj))(w:World):Own m H L w (.slice none 0 0) 0 []:=⟨World.ownsRow_nil _ _ _ _,fun g h=>by cases h⟩
section
variable{H n:Nat}{v:Value}{xs:List Int}(h:Own m H L w v n xs)
include h
theorem Own.keep(hk:∀g,v.ownBlock=some g→w'.heap[g]?=w.heap[g]?):Own m H L w' v n xs:=by
 refine⟨⟨h.own.1,?_⟩,h.free⟩;rcases h.own.2 with h1|⟨g,cap,cur,rfl,h2,h3,h4⟩
 ·exact .inl h1
 ·exact .inr ⟨g,cap,cur,rfl,h2,by rw[hk g rfl];exact h3,h4⟩
theorem Own.av(B:At af F m w m w' S'):Own m H L w' v n xs:=by
 refine h.keep fun g hg=>?_
 rcases h.own.2 with⟨h1,_⟩|⟨g2,cap,cur,rfl,h2,h3,_⟩
 ·rw[h1]at hg;cases hg
 ·cases hg;exact B.mv.keep _ (dh h3).1 (h.free _ rfl).1
theorem Own.below(hb:Below w.heap.size w w'):Own m H L w' v n xs:=by
 refine h.keep fun g hg=>?_
 rcases h.own.2 with⟨h1,_⟩|⟨g2,cap,cur,rfl,h2,h3,_⟩
 ·rw[h1]at hg;cases hg
 ·cases hg;exact hb.block _ (dh h3).1
end
theorem AB.af0(X:AB af F m0 w0 m w S L){v:Value}(hf:∀g,v.ownBlock=some g→(∀r,m.aV r≠some g)∧∀p∈L,p.1≠g)(h0:∀g,v.ownBlock=some g→w0.heap.size≤g)(hg:w.grownBy w' v.ownBlock):AB af F m0 w0 m w' S L:=by
 refine⟨⟨⟨hg.os.trans X.at_.mv.os,hg.tape.trans X.at_.mv.tape,hg.output.trans X.at_.mv.output,jm X.at_.mv.size hg.size,fun b hb hn=>?_,X.at_.mv.old⟩,X.bj.heap fun r b hb=>hg.block b (X.bj.lt hb) (fun e=>(hf b e.symm).1 r hb)⟩,fun p hp=>⟨?_,(X.loc p hp).2⟩⟩
 ·rw[hg.block b (uB hb X.at_.mv.size) (fun e=>by have:=h0 b e.symm;omega)];exact X.at_.mv.keep b hb hn
 ·have U8:=(X.loc p hp).1;rw[hg.block p.1 (dh U8).1 (fun e=>(hf p.1 e.symm).2 p hp rfl)];exact U8
end
def zG(o:cu)(i:Int):Int:=((idx o.cases i).map (·.ch)).getD 0
def lY(S:Wd)(o:cu)(l:List Int):List (Int×Int):=(l.map fun i=>(i,zG o i)).filter fun p=>cZ S p.2
theorem zH(S:Wd)(o:cu)(l:List Int)(i:Int):lY S o (l++[i])=lY S o l++(if cZ S (zG o i)then[(i,zG o i)]else[]):=by
 unfold lY;rw[List.map_append,List.filter_append];simp only[List.map_cons,List.map_nil];split
 ·rename_i h;simp[h]
 ·rename_i h;simp[h]
theorem Ck(S:Wd)(o:cu)(l:List Int):(lY S o l).length≤l.length:=by
 unfold lY;exact jm (List.length_filter_le _ _) sX
theorem mapM_some{α β:Type}{f:α→Option β}:∀{l:List α} {r:List β},l.mapM f=some r→(∀a∈l,∃b,f a=some b)∧∀(h:α→β),(∀a b,f a=some b→h a=b)→r=l.map h
 | [],r,e=>by simp at e;subst e;simp
 |a::l,r,e=>by
  simp only[List.mapM_cons,Option.pure_def,bW,cI]at e;obtain⟨b,h1,r',h2,h3⟩:=e
  cases h3;obtain⟨i1,i2⟩:=mapM_some h2;refine⟨fun c hc=>?_,fun h hh=>?_⟩
  ·rcases iL.1 hc with rfl|hc
   ·exact⟨b,h1⟩
   ·exact i1 c hc
  ·rw[List.map_cons,hh a b h1,←i2 h hh]
theorem Ji{S:Wd}{o:cu}{ds:List Int}{cs:List (Int×Int)}(h:kr S o ds=some cs):(∀i∈rz ds ds.length,∃j:Nat,i=j∧∃c,o.cases[j]?=some c∧c.ch=zG o i∧ -1000000000≤c.ch∧c.ch≤1000000000)∧cs=lY S o (rz ds ds.length):=by
 unfold kr at h;rw[PH]at h
 cases hm:(rz ds ds.length).mapM fun i=>(iF o i).map fun c=>(i,c.ch) with
 |none=>rw[hm]at h;cases h
 |some r=>
  rw[hm]at h;simp only[km,oZ]at h;obtain⟨h1,h2⟩:=mapM_some hm
  have key:∀i p,(iF o i).map (fun c=>(i,c.ch))=some p→∃j:Nat,i=j∧∃c,o.cases[j]?=some c∧c.ch=zG o i∧ -1000000000≤c.ch∧c.ch≤1000000000∧(i,zG o i)=p:=by
   intro i p hp
   cases hc:iF o i with
   |none=>rw[hc]at hp;cases hp
   |some c=>
    rw[hc]at hp;simp at hp;subst hp;unfold iF at hc;simp only[bW,cI]at hc;obtain⟨c',h3,h4⟩:=hc;split at h4
    ·cases h4;rename_i eK;obtain⟨j,rfl,hj,hjc⟩:=mO h3;have e:zG o j=c.ch:=(by unfold zG;rw[h3];rfl);unfold kJ at eK;simp at eK;exact⟨j,rfl,c,hjc,e.symm,eK.1,eK.2,bt7⟩
    ·cases h4
  refine⟨fun i hi=>?_,?_⟩
  ·obtain⟨p,hp⟩:=h1 i hi;obtain⟨j,a,c,b,d,e,f,_⟩:=key i p hp;exact⟨j,a,c,b,d,e,f⟩
  ·rw[←h,h2 (fun i=>(i,zG o i)) (fun i p hp=>?_)]
   ·rfl
   ·obtain⟨_,_,_,_,_,_,_,e⟩:=key i p hp;exact e
section
variable{af b j:Nat}{F:Fx}{w w' w0 w1 wr W:World}{m m0:Mem}{S S':Wd}{r:bH}{v:Value}{L:List (Nat×Obj)}
section
variable(A:At af F m0 w0 m w S)
include A
theorem At.Qd(hl:r.loose=true){rp:bH}{bp c g n:Nat}{p:Nat×Nat}{xs:List Value}(nI:∀q,eI r=some q→q=p)(hp:m.aV rp=some bp)(cM:rp≠r)(hown:w.ownsRow af p.1 p.2 (.slice (some ⟨g,0,none⟩) n c) n xs)(r8:∀r',m.aV r'≠some g)(Mi:w0.heap.size≤g)(jM:aj (m.eG r (some g) c) S' r=xs)(oE:aj (m.eG r (some g) c) S' rp=(aj m S rp).set j (.slice (some ⟨g,0,none⟩) n c))(ho:∀r',r'≠r→r'≠rp→aj (m.eG r (some g) c) S' r'=aj m S r'):At af F m0 w0 (m.eG r (some g) c) (w.setCell ⟨bp,j,none⟩ (.slice (some ⟨g,0,none⟩) n c)) S':=by
 obtain⟨yp,rJ⟩:=gl.kg (ty:=eI r) nI hown;have R2:=A.bj.row (S':=S') (j:=j) (v:=.slice (some ⟨g,0,none⟩) n c) (r:=r) hl (c:=c) (o:=some g) hp cM (fun g' Sb=>by cases Sb;rw[jM];exact⟨yp,rJ,fun r' b' _ h2 e=>r8 r' (e▸h2)⟩) (fun h=>bk0) oE ho;refine⟨?_,R2⟩
 have Yv:pe m0 w0 (m.eG r (some g) c) w:=by
  refine⟨A.mv.os,A.mv.tape,A.mv.output,A.mv.size,A.mv.keep,fun r' b' hb=>?_⟩;by_cases e:r'=r
  ·subst e;rw[Mem.dL]at hb;cases hb;exact .inr Mi
  ·rw[Mem.bN _ _ _ e]at hb;exact A.mv.old _ _ hb
 exact Yv.setCell (r:=rp) bp3 _
theorem At.Qe{j:Nat}{x:bI}(hx:S.gs[j]?=some x){v:Value}{n:Nat}{l:List Int}(hn:l.length=n)(hown:w.ownsRow af 3 1 v n (l.map I))(hf:∀g,v.ownBlock=some g→(∀r',m.aV r'≠some g)∧w0.heap.size≤g):∃m',At af F m0 w0 m' (w.setCell ⟨F.gs,j*25+20,none⟩ v) (S.ay j {x with aH:=l})∧∀b,m'.aV (.aH j)≠some b→(∀r',m.aV r'≠some b)→∀r',m'.aV r'≠some b:=by
 subst hn;rcases hown.2 with⟨h1,h2⟩|⟨g,cap,cur,rfl,h2,h3,h4⟩
 ·have:l=[]:=xn h2;subst this;subst h1;refine⟨_,A.Ez hx,fun b _ h r' e=>?_⟩;by_cases e2:r'=.aH j
  ·subst e2;rw[Mem.dL]at e;cases e
  ·rw[Mem.bN _ _ _ e2]at e;exact h r' e
 ·refine⟨_,A.Qd (r:=.aH j) (p:=(3,1)) rfl br1 A.bj.aB.gs sX hown (hf g rfl).1 (hf g rfl).2 ?_ ?_ (iz (.inl rfl) hx _ _ rfl sX sX sX sX),fun b h1 h r' e=>?_⟩
  ·simp[aj,Wd.ay,cX hx]
  ·exact bi4
  ·by_cases e2:r'=.aH j
   ·subst e2;exact h1 e
   ·rw[Mem.bN _ _ _ e2]at e;exact h r' e
theorem At.zI{j:Nat}{x:bI}(hx:S.gs[j]?=some x){v:Value}{n:Nat}{l:List Int}(hn:l.length=n)(hown:w.ownsRow af 3 1 v n (l.map I))(hf:∀g,v.ownBlock=some g→(∀r',m.aV r'≠some g)∧w0.heap.size≤g):∃m',At af F m0 w0 m' (w.setCell ⟨F.gs,j*25+21,none⟩ v) (S.ay j {x with aq:=l}):=by
 subst hn;rcases hown.2 with⟨h1,h2⟩|⟨g,cap,cur,rfl,h2,h3,h4⟩
 ·have:l=[]:=xn h2;subst this;subst h1;exact⟨_,A.EA hx⟩
 ·refine⟨_,A.Qd (r:=.aq j) (p:=(3,1)) rfl br1 A.bj.aB.gs sX hown (hf g rfl).1 (hf g rfl).2 ?_ ?_ (iz (.inr (.inl rfl)) hx _ _ rfl sX sX sX sX)⟩
  ·simp[aj,Wd.ay,cX hx]
  ·exact bi2
end
theorem AB.below(X:AB af F m0 w0 m w S L)(hB:Below w.heap.size w w'):AB af F m0 w0 m w' S L:=
 ⟨X.at_.heap hB,fun p hp=>⟨by rw[hB.block p.1 (dh (X.loc p hp).1).1];exact(X.loc p hp).1,(X.loc p hp).2⟩⟩
structure vk(B:Nat)(wA wr:World)(v8 v9:Value)(l8 l9:List Int):Prop where
 DS:Below B wA wr
 hB:B≤wr.heap.size
 o8:wr.ownsRow B 3 1 v8 l8.length (l8.map I)
 o9:wr.ownsRow B 3 1 v9 l9.length (l9.map I)
 apart:∀g,v8.ownBlock=some g→v9.ownBlock≠some g
section
variable{B e size n:Nat}
theorem vl{v:Value}{xs:List Value}(h:w.ownsRow B e size v n xs)(hk:∀g,v.ownBlock=some g→g<w.heap.size→w'.heap[g]?=w.heap[g]?):w'.ownsRow B e size v n xs:=by
 refine⟨h.1,?_⟩;rcases h.2 with h1|⟨g,cap,cur,rfl,h2,h3,h4⟩
 ·exact .inl h1
 ·exact .inr ⟨g,cap,cur,rfl,h2,by rw[hk g rfl (dh h3).1];exact h3,h4⟩
theorem qo{v:Value}{xs:List Value}(h:w.ownsRow B e size v n xs):∃a c,v=.slice a n c:=by
 rcases h.2 with⟨h1,h2⟩|⟨gg,cap,cur,h1,_⟩
 ·exact⟨none,0,by rw[h1,h2]⟩
 ·exact⟨_,_,h1⟩
theorem pN{v:Value}{xs:List Value}(h:w.ownsRow B e size v n xs){g:Nat}(hg:v.ownBlock=some g):B≤g∧g<w.heap.size:=by
 rcases h.2 with⟨h1,_⟩|⟨g',cap,cur,rfl,h2,h3,h4⟩
 ·rw[h1]at hg;cases hg
 ·cases hg;exact⟨h2,(dh h3).1⟩
end
theorem vk.heap{B:Nat}{wA:World}{v8 v9:Value}{l8 l9:List Int}(P:vk B wA wr v8 v9 l8 l9)(h1:w'.heap=wr.heap)(h2:w'.os=wr.os)(h3:w'.tape=wr.tape)(h4:w'.output=wr.output):vk B wA w' v8 v9 l8 l9:=
 ⟨⟨by rw[h2];exact P.DS.os,by rw[h3];exact P.DS.tape,by rw[h4];exact P.DS.output,by rw[h1];exact P.DS.size,fun k hk=>by rw[h1];exact P.DS.block k hk⟩,by rw[h1];exact P.hB,vl P.o8 fun g _ _=>by rw[h1],vl P.o9 fun g _ _=>by rw[h1],P.apart⟩
section
variable{B:Nat}{wA:World}{v8 v9:Value}{l8 l9:List Int}{o:Obj}{g cap:Nat}{i:Int}(P:vk B wA wr v8 v9 l8 l9)(hW:W.heap=(wr.alloc o).heap)(Rx:W.os=wr.os)(hW3:W.tape=wr.tape)(hW4:W.output=wr.output)
include P hW Rx hW3 hW4
theorem vk.Va(hown:w1.ownsRow B 3 1 (.slice (some ⟨g,0,none⟩) (l8.length+1) cap) (l8.length+1) (l8.map I++[I i]))(hg:W.grownBy w1 (some g))(hw:(∃c,v8=.slice (some ⟨g,0,none⟩) l8.length c)∨g=W.heap.size):vk B wA w1 (.slice (some ⟨g,0,none⟩) (l8.length+1) cap) v9 (l8++[i]) l9:=by
 have hsz:W.heap.size=wr.heap.size+1:=by rw[hW];simp
 have hBg:B≤g:=(pN hown rfl).1;have rI:∀k,k<wr.heap.size→k≠g→w1.heap[k]?=wr.heap[k]?:=fun k hk cM=>by rw[hg.block k oX (fun e=>cM (mx e)),hW];exact gf wr o k hk
 have h9:∀g',v9.ownBlock=some g'→g'≠g:=by
  intro g' Sb e;subst e;rcases hw with⟨c,rfl⟩|h
  ·exact P.apart g' rfl Sb
  ·have:=(pN P.o9 Sb).2;omega
 refine⟨⟨by rw[hg.os,Rx];exact P.DS.os,by rw[hg.tape,hW3];exact P.DS.tape,by rw[hg.output,hW4];exact P.DS.output,by have:=P.DS.size;have:=hg.size;omega,fun k hk=>by rw[rI k (by have:=P.hB;omega) oX];exact P.DS.block k hk⟩,by have:=hg.size;have:=P.hB;omega,by simpa using hown,vl P.o9 fun g' Sb dD=>rI g' dD (h9 g' Sb),fun g' h h'=>?_⟩;simp[Value.ownBlock]at h;subst h;exact h9 _ h' rfl
theorem vk.af1(hown:w1.ownsRow B 3 1 (.slice (some ⟨g,0,none⟩) (l9.length+1) cap) (l9.length+1) (l9.map I++[I i]))(hg:W.grownBy w1 (some g))(hw:(∃c,v9=.slice (some ⟨g,0,none⟩) l9.length c)∨g=W.heap.size):vk B wA w1 v8 (.slice (some ⟨g,0,none⟩) (l9.length+1) cap) l8 (l9++[i]):=by
 have Q:vk B wA wr v9 v8 l9 l8:=⟨P.DS,P.hB,P.o9,P.o8,fun g h h'=>P.apart g h' h⟩;have Z:=Q.Va hW Rx hW3 hW4 hown hg hw;exact⟨Z.DS,Z.hB,Z.o9,Z.o8,fun g h h'=>Z.apart g h' h⟩
end
end
end Go.Proofs.YtadifmnmfnihdaaGreat
