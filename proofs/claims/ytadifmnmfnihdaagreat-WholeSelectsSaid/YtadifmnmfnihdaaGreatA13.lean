import Derived.Test.YtadifmnmfnihdaaGreatA07
import Derived.Test.YtadifmnmfnihdaaGreatA12
set_option linter.all false
set_option maxRecDepth 100000
set_option maxHeartbeats 40000000
namespace Go.Proofs.YtadifmnmfnihdaaGreat.V
open Mach
section
variable{w w':Wd}{ls:List (List Nat)}{g:Nat}{x x':bI}
theorem qK(hx:w.gs[g]?=some x)(f:bI→bI):fL w g f=some (w.ay g (f x)):=by unfold fL;rw[hx];rfl
theorem wa(hx:w.gs[g]?=some x)(p:Int):cD w g p=some (w.ay g {x with ae:=p}):=qK hx _
theorem Fs(I:Inv w ls){ch:Int}(h:1≤ch∧ch≤w.au.length):∃b,idx w.aO (ch-1)=some b∧dK w ch=b:=by
 obtain⟨b,hb⟩:∃b,w.aO[(ch-1).toNat]?=some b:=⟨_,fv (by have:=I.aO;omega)⟩;have e:idx w.aO (ch-1)=some b:=by unfold idx;rw[aF (by omega)];exact hb
 exact⟨b,e,by unfold dK;rw[(gz I h).1,e];rfl⟩
theorem Df(I:Inv w ls)(hx:w.gs[g]?=some x)(hs:ea w g)(hk:(aP x).ai=4)(hp:x.ae=1):∃w',ll w g (aP x).ch=some w'∧Inv w' ls∧bK w w':=by
 have L:=I.loc g x hx;obtain⟨hm,r,hr,ok⟩:=gz I (L.cZ (by omega) (by omega) (by omega) (by omega) (by omega));obtain⟨b,hb⟩:∃b,pY w (aP x).ch=some b:=by unfold pY;rw[hm,hr];simp only[m8,dF,bW,eN];split<;>exact⟨_,rfl⟩
 unfold ll;simp only[hb,bW,eN]
 cases b with
 |true=>obtain⟨m1,m2,m3⟩:=M.s1a L (.inl hk) hp;exact⟨_,wa hx 4,I.ku hx hs m1 ⟨by simp,by simp⟩ m2 m3 rfl⟩
 |false=>obtain⟨m1,m2,m3⟩:=M.s1b L (.inl hk) hp w.av;exact⟨_,qK hx _,I.ku hx hs m1 ⟨by simp,by simp⟩ m2 m3 rfl⟩
theorem AR(I:Inv w ls)(hx:w.gs[g]?=some x)(hs:ea w g)(hk:(aP x).ai=4)(hp:x.ae=2):∃w',jG w g (aP x).ch=some w'∧Inv w' ls∧bK w w':=by
 have L:=I.loc g x hx;unfold jG;split
 ·obtain⟨m1,m2,m3⟩:=M.s2a L hk hp;exact⟨_,qK hx _,I.ku hx hs m1 ⟨by simp,by simp⟩ m2 m3 rfl⟩
 ·obtain⟨m1,m2,m3⟩:=M.s2b L (.inl hk) hp;exact⟨_,qK hx _,I.ku hx hs m1 ⟨by simp,by simp⟩ m2 m3 rfl⟩
theorem AS(I:Inv w ls)(hx:w.gs[g]?=some x)(hs:ea w g)(hk:(aP x).ai=2∨(aP x).ai=4)(hp:x.ae=5):∃w',jH w g (aP x).ch=some w'∧Inv w' ls∧bK w w':=by
 have L:=I.loc g x hx;unfold jH;split
 ·obtain⟨m1,m2,m3⟩:=M.s5a L (by omega) hp w.av (bZ 3) rfl;exact⟨_,qK hx _,I.ku hx hs m1 ⟨by simp,by simp⟩ m2 m3 rfl⟩
 ·obtain⟨m1,m2,m3⟩:=M.s5b L (by omega) hp;exact⟨_,wa hx 6,I.ku hx hs m1 ⟨by simp,by simp⟩ m2 m3 rfl⟩
theorem qL(I:Inv w ls)(hx:w.gs[g]?=some x)(hs:ea w g)(hk:(aP x).ai=2∨(aP x).ai=4)(hp:x.ae=9):∃w',jY w g (aP x)=some w'∧Inv w' ls∧bK w w':=by
 have L:=I.loc g x hx;obtain⟨hm,r,hr,ok⟩:=gz I (L.cZ (by omega) (by omega) (by omega) (by omega) (by omega));unfold jY lj;simp only[hm,hr,dt,bW,eN];have eE:(w.dZ ((aP x).ch-1).toNat (r.put (aP x).v).1).gs[g]?=some x:=hx
 cases(r.put (aP x).v).2 with
 |true=>obtain⟨m1,m2,m3⟩:=M.s9a L (by omega) hp w.av (bZ 1) rfl;exact⟨_,qK eE _,I.LN hx hs m1 ⟨by simp,by simp⟩ m2 m3 rfl (Ring.C2 ok _)⟩
 |false=>
  simp only[nW,dF];split
  ·obtain⟨m1,m2,m3⟩:=M.s9a L (by omega) hp w.av (bZ 2) rfl;exact⟨_,qK eE _,I.LN hx hs m1 ⟨by simp,by simp⟩ m2 m3 rfl (Ring.C2 ok _)⟩
  ·obtain⟨m1,m2,m3⟩:=M.s9b L (by omega) hp;exact⟨_,wa eE 10,I.LN hx hs m1 ⟨by simp,by simp⟩ m2 m3 rfl (Ring.C2 ok _)⟩
theorem Dg(I:Inv w ls){ch:Int}(h:1≤ch∧ch≤w.au.length):∃b,iX w ch=some b:=by
 obtain⟨hm,r,hr,ok⟩:=gz I h;unfold iX;rw[hm,hr];simp only[m8,dF,bW,eN];split<;>exact⟨_,rfl⟩
theorem Dh(I:Inv w ls)(hx:w.gs[g]?=some x)(hs:ea w g)(hk:(aP x).ai=5)(hp:x.ae=1∨x.ae=2∨x.ae=3):∃w',lx w g (aP x).ch=some w'∧Inv w' ls∧bK w w':=by
 have L:=I.loc g x hx;obtain⟨b,hb⟩:=Dg I (L.cZ (by omega) (by omega) (by omega) (by omega) (by omega));unfold lx;simp only[hx,bW,eN];rcases hp with hp|hp|hp
 ·simp only[hp,dt,hb,eN]
  cases b with
  |true=>obtain⟨m1,m2,m3⟩:=M.s1a L (.inr hk) hp;exact⟨_,wa hx 4,I.ku hx hs m1 ⟨by simp,by simp⟩ m2 m3 rfl⟩
  |false=>obtain⟨m1,m2,m3⟩:=M.s1b L (.inr hk) hp w.av;exact⟨_,rfl,I.ku hx hs m1 ⟨by simp,by simp⟩ m2 m3 rfl⟩
 ·rw[aE (by omega),aF hp];split
  ·obtain⟨m1,m2,m3⟩:=M.r2a L hk hp;exact⟨_,wa hx 3,I.ku hx hs m1 ⟨by simp,by simp⟩ m2 m3 rfl⟩
  ·obtain⟨m1,m2,m3⟩:=M.s2b L (.inr hk) hp;exact⟨_,rfl,I.ku hx hs m1 ⟨by simp,by simp⟩ m2 m3 rfl⟩
 ·rw[aE (by omega),aE (by omega)];simp only[hb,eN]
  cases b with
  |true=>obtain⟨m1,m2,m3⟩:=M.r3a L hk hp;exact⟨_,rfl,I.ku hx hs m1 ⟨by simp,by simp⟩ m2 m3 rfl⟩
  |false=>obtain⟨m1,m2,m3⟩:=M.r3b L hk hp w.av;exact⟨_,rfl,I.ku hx hs m1 ⟨by simp,by simp⟩ m2 m3 rfl⟩
theorem AT(I:Inv w ls)(hx:w.gs[g]?=some x)(hs:ea w g)(hk:(aP x).ai=3∨(aP x).ai=5)(hp:x.ae=5):∃w',jI w g (aP x).ch=some w'∧Inv w' ls∧bK w w':=by
 have L:=I.loc g x hx;obtain⟨hm,r,hr,ok⟩:=gz I (L.cZ (by omega) (by omega) (by omega) (by omega) (by omega));unfold jI;simp only[hx,hr,bW,eN];split
 ·split
  ·obtain⟨m1,m2,m3⟩:=M.s5c L (by omega) hp;exact⟨_,wa hx 9,I.ku hx hs m1 ⟨by simp,by simp⟩ m2 m3 rfl⟩
  ·obtain⟨m1,m2,m3⟩:=M.s5a L (by omega) hp w.av {aJ:=1,case:= -1} rfl;exact⟨_,rfl,I.ku hx hs m1 ⟨by simp,by simp⟩ m2 m3 rfl⟩
 ·obtain⟨m1,m2,m3⟩:=M.s5b L (by omega) hp;exact⟨_,wa hx 6,I.ku hx hs m1 ⟨by simp,by simp⟩ m2 m3 rfl⟩
theorem qM(I:Inv w ls)(hx:w.gs[g]?=some x)(hs:ea w g)(hk:(aP x).ai=3∨(aP x).ai=5)(hp:x.ae=9):∃w',jZ w g (aP x)=some w'∧Inv w' ls∧bK w w':=by
 have L:=I.loc g x hx;obtain⟨hm,r,hr,ok⟩:=gz I (L.cZ (by omega) (by omega) (by omega) (by omega) (by omega));unfold jZ getRing;simp only[hm,hr,dt,bW,eN];have eE:(w.dZ ((aP x).ch-1).toNat r.get.1).gs[g]?=some x:=hx
 cases r.get.2.2 with
 |true=>obtain⟨m1,m2,m3⟩:=M.s9a L (by omega) hp w.av {aJ:=1,case:= -1,v:=r.get.2.1,ok:=true} rfl;exact⟨_,qK eE _,I.LN hx hs m1 ⟨by simp,by simp⟩ m2 m3 rfl (Ring.C3 ok)⟩
 |false=>
  simp only[nW,dF];split
  ·obtain⟨m1,m2,m3⟩:=M.s9b L (by omega) hp;exact⟨_,wa eE 10,I.LN hx hs m1 ⟨by simp,by simp⟩ m2 m3 rfl (Ring.C3 ok)⟩
  ·obtain⟨m1,m2,m3⟩:=M.s9a L (by omega) hp w.av {aJ:=2,case:= -1} rfl;exact⟨_,qK eE _,I.LN hx hs m1 ⟨by simp,by simp⟩ m2 m3 rfl (Ring.C3 ok)⟩
theorem LX(I:Inv w ls)(hx:w.gs[g]?=some x)(hs:ea w g)(hk:(aP x).ai=6)(hp:x.ae=21):∃w',uD w g (aP x).ch=some w'∧Inv w' ls∧bK w w':=by
 have L:=I.loc g x hx;have hc:=L.cZ (by omega) (by omega) (by omega) (by omega) (by omega);obtain⟨hm,r,hr,ok⟩:=gz I hc;unfold uD;simp only[hx,bW,eN];split
 ·obtain⟨m1,m2,m3⟩:=M.am1 L hk hp w.av {aJ:=4,case:= -1} rfl;exact⟨_,rfl,I.ku hx hs m1 ⟨by simp,by simp⟩ m2 m3 rfl⟩
 ·have gm:=I.aO;have e:put w.aO ((aP x).ch-1) true=some (w.aO.set ((aP x).ch-1).toNat true):=by unfold put;rw[aF (by omega)]
  simp only[e,km,eN];obtain⟨m1,m2,m3⟩:=M.am2 L hk hp w.av {aJ:=1,case:= -1,ok:=true} rfl;exact⟨_,rfl,I.frame hx hs m1 (by simp) (by simp) m2 rfl rfl rfl I.au (by simp[Wd.ay]) rfl (I.lock.same hx m3) rfl rfl rfl,dW hx rfl,rfl,rfl,rfl,rfl,rfl⟩
end
theorem sf:∀(n:Nat) (m c:List Int),∃t,m=(dN n m c).1++t∧(dN n m c).2=c++t.reverse∧t.length≤n
 |0,m,c=>⟨[],by simp[dN]⟩
 |n+1,m,c=>by
  unfold dN;rcases ym m with rfl|⟨m',x,rfl⟩
  ·exact⟨[],by simp⟩
  ·rw[yn];simp only[List.getLast?_append,List.getLast?_singleton,Option.some_or,List.dropLast_concat];obtain⟨t,h1,h2,h3⟩:=sf n m' (c++[x]);refine⟨t++[x],?_,?_,by simp;exact h3⟩
   ·rw[←List.append_assoc,←h1]
   ·rw[h2];simp
theorem y7:∀(n:Nat) (m c:List Int),∃t,c=(nS n m c).2++t∧(nS n m c).1=m++t.reverse∧(n≤c.length→t.length=n)
 |0,m,c=>⟨[],by simp[nS]⟩
 |n+1,m,c=>by
  unfold nS;rcases ym c with rfl|⟨c',x,rfl⟩
  ·exact⟨[],by simp⟩
  ·rw[yn];simp only[List.getLast?_append,List.getLast?_singleton,Option.some_or,List.dropLast_concat];obtain⟨t,h1,h2,h3⟩:=y7 n (m++[x]) c';refine⟨t++[x],?_,?_,fun h=>?_⟩
   ·rw[←List.append_assoc,←h1]
   ·rw[h2];simp
   ·simp at h ⊢;exact h3 (by omega)
theorem y8{L:List (List Int)}{g:Nat}{c:List Int}(h:L[g]?=some c):∃A B:List Int,L.flatten=A++c++B∧∀c',(L.set g c').flatten=A++c'++B:=by
 induction L generalizing g with
 |nil=>simp at h
 |cons d L ih=>
  cases g with
  |zero=>
   simp at h;subst h;exact⟨[],L.flatten,by simp,fun c'=>by simp⟩
  |succ g=>
   obtain⟨A,B,h1,h2⟩:=ih (g:=g) (by simpa using h);exact⟨d++A,B,by simp[h1],fun c'=>by simp[h2]⟩
theorem rQ.small{p:fS}{N n:Nat}(P:rQ p N n):(p.aK++p.aC.flatten).length≤N:=by
 have h:=jy N ((p.aK++p.aC.flatten).map Int.toNat) ?_ ?_
 ·rw[ko]at h;exact h
 ·refine List.pairwise_map.2 (P.nd.imp_of_mem fun ha hb cM e=>cM ?_);have:=(P.kept _ ha).1;have:=(P.kept _ hb).1;omega
 ·intro x hx;obtain⟨y,hy,rfl⟩:=List.mem_map.1 hx;obtain⟨_,h1,_⟩:=P.kept y hy;have:=cA h1;rw[P.bV]at this;exact this
theorem iW(p:fS)(y:Nat):p.cK y=true↔(y:Int)<p.cO∧p.bV[y]?=some false:=by
 unfold fS.cK idx;simp only[Int.natCast_nonneg,decide_true,Bool.true_and,dt,oU,qs,decide_eq_true_eq]
 cases h:p.bV[y]? with
 |none=>simp
 |some b=>cases b<;>simp
theorem y9{a b:Bool}(h:a=true↔b=true):a=b:=by cases a<;>cases b<;>simp_all
theorem rQ.of{p p':fS}{N n:Nat}(P:rQ p N n)(h1:p'.size=p.size)(h2:p'.most=p.most)(h3:p'.bV.length=p.bV.length)(h4:p'.aC.length=p.aC.length)(h5:∀c∈p'.aC,(c.length:Int)≤p.most)(h6:0≤p'.cO∧p'.cO≤p'.bV.length)(h7:(p'.aK++p'.aC.flatten).Nodup)(h8:∀x∈p'.aK++p'.aC.flatten,0≤x∧p'.bV[x.toNat]?=some true∧x<p'.cO)(h9:∀y:Nat,p'.cO≤y→y<N→p'.bV[y]?=some false):rQ p' N n:=by
 obtain⟨o1,o2,o3,o4,o5,o6,o7,o8,o9,o10⟩:=P.ok;have hh:p'.bV.length=N:=h3.trans P.bV;have dD:∀x∈p'.aK++p'.aC.flatten,0≤x∧x<p'.bV.length:=fun x hx=>by have:=h8 x hx;omega
 have hs:(p'.aK++p'.aC.flatten).length≤N:=by
  have h:=jy N ((p'.aK++p'.aC.flatten).map Int.toNat) ?_ ?_
  ·rw[ko]at h;exact h
  ·refine List.pairwise_map.2 (h7.imp_of_mem fun ha hb cM e=>cM ?_);have:=(h8 _ ha).1;have:=(h8 _ hb).1;omega
  ·intro x hx;obtain⟨y,hy,rfl⟩:=List.mem_map.1 hx;have:=dD y hy;omega
 have h64:N≤64:=by have:=P.bV;omega
 refine⟨⟨by omega,by omega,h6.1,h6.2,by omega,by omega,fun x hx=>dD x (List.mem_append_left _ hx),fun c hc x hx=>dD x (List.mem_append_right _ (List.mem_flatten.2 ⟨c,hc,hx⟩)),by simp at hs;omega,fun c hc=>?_⟩,h1.trans P.size,hh,h4.trans P.aC,by rw[h2];exact h5,h7,h8,h9⟩;have:=h5 c hc;omega
theorem we{p:fS}{N n g:Nat}(P:rQ p N n)(hg:g<n):((p.take g).2.2=true→∃j:Nat,(p.take g).2.1=j∧j<N∧p.cK j=false∧(p.take g).1.cK j=true∧(∀y:Nat,y≠j→(p.take g).1.cK y=p.cK y)∧rQ (p.take g).1 N n)∧((p.take g).2.2=false→(p.take g).1=p):=by
 have hc:g<p.aC.length:=by rw[P.aC];exact hg
 obtain⟨c,hc⟩:∃c,p.aC[g]?=some c:=⟨_,fv hc⟩;have K8:c∈p.aC:=lf hc;obtain⟨A,B,hA,hB⟩:=y8 hc;obtain⟨o1,o2,o3,o4,o5,o6,o7,o8,o9,o10⟩:=P.ok;have fX:=P.nd;have hk:=P.kept
 have ZE:((p.filled c).1++(p.filled c).2).Perm (p.aK++c)∧((p.filled c).2.length:Int)≤p.most∧((p.filled c).2=[]→(p.filled c).1=p.aK∧c=[]):=by
  unfold fS.filled;split
  ·rename_i e;subst e;obtain⟨t,h1,h2,h3⟩:=sf (max 1 (p.most.toNat / 2)) p.aK [];refine⟨?_,?_,fun h=>?_⟩
   ·rw[h2];conv=>rhs;rw[h1]
    simp only[List.nil_append,List.append_nil];exact List.Perm.append_left _ t.reverse_perm
   ·rw[h2];simp;omega
   ·rw[h2]at h;simp at h;subst h;rw[List.append_nil]at h1;exact⟨h1.symm,rfl⟩
  ·rename_i e;exact⟨.refl _,P.most c K8,fun h=>aX h e⟩
 obtain⟨f1,f2,f3⟩:=ZE;unfold fS.take;simp only[hc];rcases ym (p.filled c).2 with h0|⟨c',x,h0⟩
 ·obtain⟨h1,h2⟩:=f3 h0;rw[h0];simp only[List.getLast?_nil];by_cases hf:p.cO<p.size
  ·rw[aF hf];have dD:p.cO.toNat<N:=by have:=P.size;omega
   have BZ:=P.new p.cO.toNat (by omega) dD;refine⟨fun _=>⟨p.cO.toNat,by simp;omega,dD,?_,?_,?_,?_⟩,fun h=>by cases h⟩
   ·have h:=iW p p.cO.toNat
    cases hb:p.cK p.cO.toNat with
    |false=>rfl
    |true=>have:=(h.1 hb).1;omega
   ·exact(iW _ _).2 ⟨by simp only;omega,BZ⟩
   ·intro y hy;refine y9 ((iW _ _).trans (Iff.trans ?_ (iW _ _).symm));simp only;constructor
    ·rintro⟨a,b⟩;exact⟨by omega,b⟩
    ·rintro⟨a,b⟩;exact⟨by omega,b⟩
   ·exact P.of rfl rfl rfl rfl P.most (by simp only;have:=P.size;omega) fX (fun x hx=>by have:=hk x hx;exact⟨this.1,this.2.1,by simp only;omega⟩) (fun y hy ZF=>P.new y (by simp only at hy;omega) ZF)
  ·rw[aE hf];exact⟨fun h=>(by cases h),fun _=>rfl⟩
 ·rw[yn]at h0;rw[h0];simp only[List.getLast?_append,List.getLast?_singleton,Option.some_or,List.dropLast_concat];rw[h0]at f1 f2
  have B6:(x::((p.filled c).1++(p.aC.set g c').flatten)).Perm (p.aK++p.aC.flatten):=by
   rw[hB,hA];have e1:((p.filled c).1++(c'++[x])++(A++B)).Perm (p.aK++c++(A++B)):=f1.append_right _;refine List.Perm.trans ?_ (e1.trans ?_)
   ·have:(x::((p.filled c).1++(A++c'++B))).Perm ((p.filled c).1++(c'++[x])++(A++B)):=by
     rw[List.perm_iff_count];intro a;simp only[List.count_cons,List.count_append,List.count_nil];omega
    exact this
   ·rw[List.perm_iff_count];intro a;simp only[List.count_append];omega
  have hxm:x∈p.aK++p.aC.flatten:=B6.subset (by simp);obtain⟨k0,k1,k2⟩:=hk x hxm;have vI:=cA k1;have Wj:(x::((p.filled c).1++(p.aC.set g c').flatten)).Nodup:=(B6.nodup_iff).2 fX;rw[List.nodup_cons]at Wj;refine⟨fun _=>⟨x.toNat,by omega,by have:=P.bV;omega,?_,?_,?_,?_⟩,fun h=>by cases h⟩
  ·cases hb:p.cK x.toNat with
   |false=>rfl
   |true=>
    have h1:=((iW p x.toNat).1 hb).2;rw[k1]at h1;cases h1
  ·refine(iW _ _).2 ⟨by simp only;omega,?_⟩;simp only;rw[nH vI]
  ·intro y hy;refine y9 ((iW _ _).trans (Iff.trans ?_ (iW _ _).symm));simp only;rw[oA (dE hy)]
  ·refine P.of rfl rfl (by simp) (by simp) (fun d hd=>?_) (by simp only;rw[kI];exact⟨o3,o4⟩) Wj.2 (fun y hy=>?_) (fun y hy ZF=>?_)
   ·rcases List.mem_or_eq_of_mem_set hd with h|h
    ·exact P.most d h
    ·rw[h];simp at f2;omega
   ·obtain⟨a,b,d⟩:=hk y (B6.subset (nO _ hy));refine⟨a,?_,d⟩;simp only;rw[oA (fun e=>?_)]
    ·exact b
    ·have:y=x:=by omega
     exact Wj.1 (this▸hy)
   ·simp only at hy ⊢;rw[oA (fun e=>by omega)];exact P.new y hy ZF
theorem B7{p:fS}{N n g:Nat}(P:rQ p N n)(hg:g<n){x:Nat}(hl:p.cK x=true):(p.nh g x).1.cK x=false∧(∀y:Nat,y≠x→(p.nh g x).1.cK y=p.cK y)∧rQ (p.nh g x).1 N n:=by
 have hc:g<p.aC.length:=by rw[P.aC];exact hg
 obtain⟨c,hc⟩:∃c,p.aC[g]?=some c:=⟨_,fv hc⟩;have K8:c∈p.aC:=lf hc;obtain⟨A,B,hA,hB⟩:=y8 hc;obtain⟨o1,o2,o3,o4,o5,o6,o7,o8,o9,o10⟩:=P.ok;have fX:=P.nd;have hk:=P.kept;obtain⟨l1,l2⟩:=(iW p x).1 hl;have vI:=cA l2
 have Ax:((p.mu c).1++(p.mu c).2).Perm (p.aK++c)∧((p.mu c).2.length:Int)+1≤p.most:=by
  unfold fS.mu;have gm:=P.most c K8;split
  ·rename_i e;obtain⟨t,h1,h2,h3⟩:=y7 (c.length-p.most.toNat / 2) p.aK c;have h4:=h3 (by omega);have h5:c.length=(nS (c.length-p.most.toNat / 2) p.aK c).2.length+t.length:=by conv=>lhs;rw[h1,py]
   refine⟨?_,by omega⟩;rw[h2];conv=>rhs;rw[h1]
   rw[List.perm_iff_count];intro a;simp only[List.count_append,List.count_reverse];omega
  ·rename_i e;exact⟨.refl _,by simp only;omega⟩
 obtain⟨s1,s2⟩:=Ax;unfold fS.nh;simp only[hc,hl,m8,dF];have B6:((p.mu c).1++(p.aC.set g ((p.mu c).2++[(x:Int)])).flatten).Perm ((x:Int)::(p.aK++p.aC.flatten)):=by rw[hB,hA,List.perm_iff_count];intro a;have:=(List.perm_iff_count.1 s1) a;simp only[List.count_append,List.count_cons,List.count_nil]at this ⊢;omega
 have hxn:(x:Int) ∉ p.aK++p.aC.flatten:=fun h=>by have h1:=(hk _ h).2.1;rw[oU,l2]at h1;cases h1
 refine⟨?_,fun y hy=>?_,?_⟩
 ·have hn:=iW {p with aK:=(p.mu c).1,aC:=p.aC.set g ((p.mu c).2++[(x:Int)]),bV:=p.bV.set (x:Int).toNat true} x
  cases hb:fS.cK {p with aK:=(p.mu c).1,aC:=p.aC.set g ((p.mu c).2++[(x:Int)]),bV:=p.bV.set (x:Int).toNat true} x with
  |false=>rfl
  |true=>
   have:=(hn.1 hb).2;simp only[oU]at this;rw[nH vI]at this
   cases this
 ·refine y9 ((iW _ _).trans (Iff.trans ?_ (iW _ _).symm));simp only[oU];rw[oA (dE hy)]
 ·refine P.of rfl rfl (by simp) (by simp) (fun d hd=>?_) (by simp only;rw[kI];exact⟨o3,o4⟩) (B6.nodup_iff.2 (List.nodup_cons.2 ⟨hxn,fX⟩)) (fun y hy=>?_) (fun y hy ZF=>?_)
  ·rcases List.mem_or_eq_of_mem_set hd with h|h
   ·exact P.most d h
   ·rw[h];simp;omega
  ·simp only[oU];rcases iL.1 (B6.subset hy)with h|h
   ·subst h;exact⟨by omega,by rw[oU,nH vI],l1⟩
   ·obtain⟨a,b,d⟩:=hk y h;refine⟨a,?_,d⟩;rw[oA (fun e=>?_)]
    ·exact b
    ·have:y=x:=by omega
     exact hxn (this▸h)
  ·simp only[oU]at hy ⊢;rw[oA (fun e=>by omega)];exact P.new y hy ZF
theorem wg{ls:List (List Nat)}{s k:Nat}{l:List Nat}(h:(iA ls s)[k]?=some l):∃l0,ls[k]?=some l0∧l=l0.erase s:=by
 unfold iA at h;rw[na]at h
 cases hl:ls[k]? with
 |none=>rw[hl]at h;cases h
 |some l0=>rw[hl]at h;simp at h;exact⟨l0,rfl,h.symm⟩
theorem OV{ls:List (List Nat)}{k:Nat}{l:List Nat}(s:Nat)(h:ls[k]?=some l):(iA ls s)[k]?=some (l.erase s):=by
 unfold iA;rw[na,h];rfl
section
variable{w w':Wd}{ls:List (List Nat)}
theorem Inv.B8(I:Inv w ls){s:Nat}(hs:s<w.ah.length)(Aq:∀(g:Nat) x,w.gs[g]?=some x→bm x→x.br≠s):∃q',fZ w s=some {w with aw:=q'}∧Inv {w with aw:=q'} (iA ls s)∧(∀(k:Nat) l,(iA ls s)[k]?=some l→s ∉ l):=by
 have N5:=I.aS;have h64:=I.JZ;obtain⟨q',ok,h1,h2,h3⟩:=I.q.drop (x:=s) (by omega) (by omega);have Ko:∀(k:Nat) l,(iA ls s)[k]?=some l→s ∉ l:=fun k l hl=>by obtain⟨l0,a,rfl⟩:=wg hl;exact fun hm=>((I.q.nodup k l0 a).mem_erase_iff.1 hm).1 rfl
 refine⟨q',by unfold fZ;rw[h1];rfl,⟨I.n8,I.ax,I.c8,I.aO,I.aq,I.au,I.JZ,h3.trans I.aS,by unfold iA;rw[ko];exact I.bM,I.ar,h2,I.loc,I.lock,I.cK,I.bY,I.bA,?_,?_,?_,I.pE,I.served,I.st,I.jn,I.pg,I.rf⟩,Ko⟩
 ·intro k l u hl hm;obtain⟨l0,a,rfl⟩:=wg hl;exact I.EJ k l0 u a (List.mem_of_mem_erase hm)
 ·intro g x hx hl;obtain⟨u,k,l,sd,a,b,c,d,e,f⟩:=I.look g x hx hl;refine⟨u,k,l.erase s,sd,a,OV s b,?_,d,e,f⟩;rw[(I.q.nodup k l b).mem_erase_iff];exact⟨fun e=>Aq g x hx hl (by rw[a,e]),c⟩
 ·intro g x hx hc;obtain⟨u,z,sd,y,h1,h2,h3,h4,h5,h6,h7,h8,h9,ph,rA,uQ,uu⟩:=I.claim g x hx hc;refine⟨u,z,sd,y,h1,h2,h3,h4,h5,h6,h7,h8,h9,ph,rA,fun h k l hl hm=>?_,uu⟩;obtain⟨l0,a,rfl⟩:=wg hl;exact uQ h k l0 a (List.mem_of_mem_erase hm)
def uW(a b:gn):Prop:=a.cK=b.cK∧a.g=b.g∧a.ch=b.ch∧a.case=b.case∧a.cF=b.cF
theorem uW.owns{a b:gn}(h:uW a b){x:bI}{s:Nat}:eP x s a↔eP x s b:=by obtain⟨_,_,h3,h4,h5⟩:=h;unfold eP;rw[h3,h4,h5]
theorem uW.eV{a b:gn}(h:uW a b){x:bI}:eV x a↔eV x b:=by obtain⟨_,_,h3,h4,h5⟩:=h;unfold V.eV;rw[h4]
theorem Di{l:List gn}{s j:Nat}{sd sd' u:gn}(hs:l[s]?=some sd)(h:(l.set s sd')[j]?=some u):(j=s∧u=sd')∨(j≠s∧l[j]?=some u):=by
 rw[sW]at h;split at h
 ·rename_i e;split at h
  ·cases h;exact .inl ⟨e.symm,rfl⟩
  ·cases h
 ·rename_i e;exact .inr ⟨fun e'=>e e'.symm,h⟩
theorem qN{l:List gn}{s:Nat}{sd:gn}(sd':gn)(hs:l[s]?=some sd):(l.set s sd')[s]?=some sd':=nH (cA hs)
theorem OW{l:List gn}{s j:Nat}(sd':gn)(h:j≠s):(l.set s sd')[j]?=l[j]?:=oA (dE h)
theorem Inv.ZG(I:Inv w ls){s:Nat}{sd sd':gn}(hs:w.ah[s]?=some sd)(h:uW sd' sd):Inv (w.cJ s sd') ls:=by
 have fwd:∀(j:Nat) u,w.ah[j]?=some u→∃u',(w.ah.set s sd')[j]?=some u'∧uW u' u:=by
  intro j u hu;by_cases e:j=s
  ·subst e;rw[hs]at hu;cases hu;exact⟨sd',qN _ hs,h⟩
  ·exact⟨u,by rw[OW _ e];exact hu,rfl,rfl,rfl,rfl,rfl⟩
 have bwd:∀(j:Nat) u',(w.ah.set s sd')[j]?=some u'→∃u,w.ah[j]?=some u∧uW u' u:=by
  intro j u' hu;rcases Di hs hu with⟨rfl,rfl⟩|⟨e,hu⟩
  ·exact⟨sd,hs,h⟩
  ·exact⟨u',hu,rfl,rfl,rfl,rfl,rfl⟩
 have cP:(w.ah.set s sd').length=w.ah.length:=by simp
 refine⟨I.n8,I.ax,I.c8,I.aO,I.aq,I.au,by simp only[Wd.cJ];rw[cP];exact I.JZ,by simp only[Wd.cJ];rw[cP];exact I.aS,I.bM,by simp only[Wd.cJ];rw[cP];exact I.ar,I.q,I.loc,I.lock,?_,?_,?_,?_,?_,?_,?_,?_,I.st,I.jn,I.pg,I.rf⟩
 ·intro j u' hu hl;obtain⟨u,a,b⟩:=bwd j u' hu;exact I.cK j u a (by rw[←b.1];exact hl)
 ·intro g x j hx hm;obtain⟨u,a,b,c,d⟩:=I.bY g x j hx hm;obtain⟨u',e,f⟩:=fwd j u a;exact⟨u',e,f.1.trans b,f.2.1.trans c,f.owns.2 d⟩
 ·intro g x i j hx hm;obtain⟨u,a,b,c,k,d⟩:=I.bA g x i j hx hm;obtain⟨u',e,f⟩:=fwd j u a;exact⟨u',e,f.1.trans b,f.2.1.trans c,f.2.2.2.1.trans k,f.owns.2 d⟩
 ·intro k l j hl hm;obtain⟨u,g,x,a,b,c,d,e,i,o⟩:=I.EJ k l j hl hm;obtain⟨u',p,f⟩:=fwd j u a;exact⟨u',g,x,p,f.1.trans b,f.2.1.trans c,d,f.owns.2 e,f.eV.2 i,by unfold Lh at o ⊢;rw[f.2.2.2.2,f.2.2.1];exact o⟩
 ·intro g x hx hl;obtain⟨j,k,l,u,a,b,c,d,e,i⟩:=I.look g x hx hl;obtain⟨u',p,f⟩:=fwd j u d;exact⟨j,k,l,u',a,b,c,p,by rw[f.2.2.2.1];exact e,by rw[f.2.2.1];exact i⟩
 ·intro g x hx hc;obtain⟨j,z,u,y,h1,h2,h3,h4,h5,h6,h7,h8,h9,ph,rA,uQ,uu⟩:=I.claim g x hx hc;obtain⟨u',p,f⟩:=fwd j u h2;exact⟨j,z,u',y,h1,p,f.1.trans h3,f.2.1.trans h4,h5,h6,f.owns.2 h7,h8,h9,ph.trans f.2.2.2.1.symm,rA,uQ,by rw[f.2.2.1];exact uu⟩
 ·intro g x g' x' j j' u1 u2 hx hc th Ek h1 h2 h3 h4 h5;obtain⟨v1,a1,b1⟩:=bwd j u1 h3;obtain⟨v2,a2,b2⟩:=bwd j' u2 h4;exact I.pE g x g' x' j j' v1 v2 hx hc th Ek h1 h2 a1 a2 (by rw[←b1.2.1,←b2.2.1];exact h5)
 ·intro g x j hx hp;obtain⟨u,a,b,c,d,e⟩:=I.served g x j hx hp;obtain⟨u',p,f⟩:=fwd j u a;exact⟨u',p,f.1.trans b,f.2.1.trans c,f.owns.2 d,e.trans f.2.2.2.1.symm⟩
theorem Inv.Wk(I:Inv w ls){s:Nat}{sd sd':gn}{p':fS}(hs:w.ah[s]?=some sd)(Ko:sd.cK=true→∀(g:Nat) x,w.gs[g]?=some x→sd.g=g→¬eP x s sd)(hP:rQ p' w.ah.length w.gs.length)(hl:∀y:Nat,y≠s→p'.cK y=w.ar.cK y)(wi:sd'.cK=true→p'.cK s=true):Inv {w.cJ s sd' with ar:=p'} ls:=by
 have cM:∀(j g:Nat) (x:bI) u,w.gs[g]?=some x→w.ah[j]?=some u→u.cK=true→u.g=g→eP x j u→j≠s:=by intro j g x u hx hu hl hg ho e;subst e;rw[hs]at hu;cases hu;exact Ko hl g x hx hg ho
 have fwd:∀(j g:Nat) (x:bI) u,w.gs[g]?=some x→w.ah[j]?=some u→u.cK=true→u.g=g→eP x j u→(w.ah.set s sd')[j]?=some u:=by intro j g x u hx hu hl hg ho;rw[OW _ (cM j g x u hx hu hl hg ho)];exact hu
 have cP:(w.ah.set s sd').length=w.ah.length:=by simp
 refine⟨I.n8,I.ax,I.c8,I.aO,I.aq,I.au,by simp only[Wd.cJ];rw[cP];exact I.JZ,by simp only[Wd.cJ];rw[cP];exact I.aS,I.bM,by simp only[Wd.cJ];rw[cP];exact hP,I.q,I.loc,I.lock,?_,?_,?_,?_,?_,?_,?_,?_,I.st,I.jn,I.pg,I.rf⟩
 ·intro j u' hu pJ;rcases Di hs hu with⟨rfl,rfl⟩|⟨e,hu⟩
  ·exact wi pJ
  ·simp only;rw[hl j e];exact I.cK j u' hu pJ
 ·intro g x j hx hm;obtain⟨u,a,b,c,d⟩:=I.bY g x j hx hm;exact⟨u,fwd j g x u hx a b c d,b,c,d⟩
 ·intro g x i j hx hm;obtain⟨u,a,b,c,k,d⟩:=I.bA g x i j hx hm;exact⟨u,fwd j g x u hx a b c d,b,c,k,d⟩
 ·intro k l j pJ hm;obtain⟨u,g,x,a,b,c,d,e,i,o⟩:=I.EJ k l j pJ hm;exact⟨u,g,x,fwd j g x u d a b c e,b,c,d,e,i,o⟩
 ·intro g x hx ja;obtain⟨j,k,l,u,a,b,c,d,e,i⟩:=I.look g x hx ja;obtain⟨u2,g2,x2,a2,b2,c2,d2,e2,i2,o2⟩:=I.EJ k l j b c;rw[d]at a2;cases a2;exact⟨j,k,l,u,a,b,c,fwd j g2 x2 u d2 d b2 c2 e2,e,i⟩
 ·intro g x hx hc;obtain⟨j,z,u,y,h1,h2,h3,h4,h5,h6,h7,h8,h9,ph,rA,uQ,uu⟩:=I.claim g x hx hc;exact⟨j,z,u,y,h1,fwd j z y u h6 h2 h3 h4 h7,h3,h4,h5,h6,h7,h8,h9,ph,rA,uQ,uu⟩
 ·intro g x g' x' j j' u1 u2 hx hc th Ek h1 h2 h3 h4 h5
  have key:∀(g:Nat) (x:bI) (j:Nat) u,w.gs[g]?=some x→aT x→x.br=j→(w.ah.set s sd')[j]?=some u→w.ah[j]?=some u:=by
   intro g x j u hx hc hh hu;obtain⟨j2,z,v,y,k1,k2,k3,k4,k5,k6,k7,_⟩:=I.claim g x hx hc;obtain rfl:j2=j:=by omega
   rw[fwd j2 z y v k6 k2 k3 k4 k7]at hu;rw[←hu];exact k2
  exact I.pE g x g' x' j j' u1 u2 hx hc th Ek h1 h2 (key g x j u1 hx hc h1 h3) (key g' x' j' u2 th Ek h2 h4) h5
 ·intro g x j hx hp;obtain⟨u,a,b,c,d,e⟩:=I.served g x j hx hp;exact⟨u,fwd j g x u hx a b c d,b,c,d,e⟩
theorem Inv.UX(I:Inv w ls){s k g:Nat}{x:bI}{sd:gn}(hs:w.ah[s]?=some sd)(hl:sd.cK=true)(hg:sd.g=g)(hx:w.gs[g]?=some x)(ho:eP x s sd)(hm:eV x sd)(hk:(k:Int)=Lh sd)(ZH:k<16)(Ko:∀(k:Nat) l,ls[k]?=some l→s ∉ l)(Ft:(aP x).ai≠9→∀(j:Nat) u,w.gs[j]?=some u→aT u→u.br≠s):∃q' l,ls[k]?=some l∧lh w k s=some {w with aw:=q'}∧Inv {w with aw:=q'} (ls.set k (l++[s])):=by
 have N5:=I.aS;have h64:=I.JZ;have mj:s<w.ah.length:=cA hs;obtain⟨l,Fu⟩:∃l,ls[k]?=some l:=⟨_,fv (by have:=I.bM;omega)⟩;obtain⟨q',h1,h2,h3⟩:=I.q.push Fu (x:=s) (by omega) Ko (by omega);refine⟨q',l,Fu,by unfold lh;rw[h1];rfl,⟨I.n8,I.ax,I.c8,I.aO,I.aq,I.au,I.JZ,h3.trans I.aS,by rw[kI];exact I.bM,I.ar,h2,I.loc,I.lock,I.cK,I.bY,I.bA,?_,?_,?_,I.pE,I.served,I.st,I.jn,I.pg,I.rf⟩⟩
 ·intro k' l' u wi Ht;rcases rP Fu wi with⟨rfl,rfl⟩|⟨cM,wi⟩
  ·rcases List.mem_append.1 Ht with h|h
   ·exact I.EJ k' l u Fu h
   ·simp at h;subst h;exact⟨sd,g,x,hs,hl,hg,hx,ho,hm,hk⟩
  ·exact I.EJ k' l' u wi Ht
 ·intro j y hy ja;obtain⟨u,k',l',sd',a,b,c,d,e,f⟩:=I.look j y hy ja;by_cases kE:k'=k
  ·subst kE;rw[Fu]at b;cases b;exact⟨u,k',_,sd',a,yB Fu _,by simp[c],d,e,f⟩
  ·exact⟨u,k',l',sd',a,by rw[oA (dE kE)];exact b,c,d,e,f⟩
 ·intro j y hy hc;obtain⟨u,z,sd',y',a1,a2,a3,a4,h5,a6,h7,h8,h9,ph,rA,uQ,uu⟩:=I.claim j y hy hc;refine⟨u,z,sd',y',a1,a2,a3,a4,h5,a6,h7,h8,h9,ph,rA,fun h k' l' wi Ht=>?_,uu⟩;rcases rP Fu wi with⟨rfl,rfl⟩|⟨cM,wi⟩
  ·rcases List.mem_append.1 Ht with h'|h'
   ·exact uQ h k' l Fu h'
   ·simp at h';subst h';rw[hs]at a2;cases a2;obtain rfl:z=g:=by omega
    rw[hx]at a6;cases a6;exact Ft h j y hy hc a1
  ·exact uQ h k' l' wi Ht
end
theorem tc.keep{gs:List bI}{b:List (Int×Bool)}(h:tc gs b){g:Nat}{x x':bI}(hx:gs[g]?=some x)(hw:aW x→aW x')(hp:0≤x.aN→0≤x'.aN)(h1:x'.ae=x.ae)(h2:x'.at_=x.at_)(h3:x'.ops=x.ops):tc (gs.set g x') b:=by
 intro j y s t hy hb;rcases cX hx hy with⟨e,e2⟩|⟨cM,rN⟩
 ·subst e e2;obtain⟨a1,a2,a3,a4,a5,a6,a7⟩:=h _ x s t hx hb;refine⟨a1,a2,fun ht=>?_,by rw[h1];exact a4,by rw[h1];exact a5,fun k l=>hp (a6 (by rw[←h1];exact k) l),by rw[h1,h2,h3];exact a7⟩;obtain⟨c1,c2,c3,c4⟩:=a3 ht;exact⟨hw c1,by rw[h1];exact c2,hp c3,c4⟩
 ·exact h j y s t rN hb
theorem pD.keep{gs:List bI}{b:List (Int×Bool)}(h:pD gs b){g:Nat}{x x':bI}(hx:gs[g]?=some x)(hw:aW x→aW x')(hp:0≤x.aN→0≤x'.aN)(hk:x'.wakes.Sublist x.wakes)(Ng:x'.ae=14→x.ae=14):pD (gs.set g x') b:=by
 intro j y z hy hz
 have xq:∃(j0:Nat) (y0:bI),gs[j0]?=some y0∧z∈y0.wakes:=by
  rcases cX hx hy with⟨h1,h2⟩|⟨cM,hy⟩
  ·exact⟨g,x,hx,hk.subset (by rw[←h2];exact hz)⟩
  ·exact⟨j,y,hy,hz⟩
 obtain⟨j0,y0,J2,fV⟩:=xq;obtain⟨i,u,s,h0,h1,h2,h3,h4,h5⟩:=h j0 y0 z J2 fV;by_cases hi:i=g
 ·subst hi;rw[hx]at h1;cases h1;exact⟨i,x',s,h0,di _ hx,hw h2,hp h3,h4,fun h=>h5 (Ng h)⟩
 ·exact⟨i,u,s,h0,by rw[gd _ hi];exact h1,h2,h3,h4,h5⟩
theorem iB{y:bI}(h:aW y):y.ae=12∨y.ae=13∨y.ae=14∨y.ae=29∨y.ae=30:=by
 rcases h with⟨_,h|h|h⟩|⟨_,h|⟨h,_⟩|h|h⟩<;>omega
theorem xZ{y:bI}(h:y.ae=12∨y.ae=13∨y.ae=14∨y.ae=29∨y.ae=30):¬aT y∧¬bm y:=by
 unfold aT bm;omega
theorem Loc.Wl{C:Nat}{x x':bI}(h:gU C x∧Ej x∧nm x)(h1:aP x'=aP x)(h2:x'.ae=x.ae)(h3:x'.res=x.res)(h4:x'.bA=x.bA)(h5:x'.aH=x.aH)(h6:x'.aq=x.aq)(h7:x'.k=x.k):gU C x'∧Ej x'∧nm x':=by
 obtain⟨⟨s1,s2,s3,s4,s5,s6,s7⟩,s8,⟨s9,V1,ZI,s12,s13,s14,s15⟩⟩:=h;refine⟨⟨by rw[h5];exact s1,by rw[h5,h1,h6];exact s2,by rw[h5];exact s3,by rw[h5];exact s4,by rw[h6];exact s5,by rw[h6];exact s6,by rw[h6];exact s7⟩,by unfold Ej at*;rw[h2,h5,h6,h7];exact s8,⟨by rw[h2,h3,h4];exact s9,by rw[h1,h2,h3,h4];exact V1,by rw[h4,h5];exact ZI,by rw[h2,h3,h4,h5];exact s12,by rw[h2,h4,h5,h7];exact s13,by rw[h2,h4,h5,h7];exact s14,by rw[h2,h4,h5,h7];exact s15⟩⟩
theorem Loc.ZJ{C:Nat}{y:bI}(L:Loc C y)(hw:aW y)(hp:y.aN= -1)(p q f:Int)(b:Bool)(hf:(aP y).ai≠9→f= -1)(hb:(aP y).ai≠9→b=y.bk):Loc C {y with point:=p,bF:=q,fire:=f,bk:=b}:=by
 have kM:=iB hw;have n0:¬y.ae=0:=by omega
 have n1:¬(y.ae=24∨y.ae=25∨y.ae=26∨y.ae=28):=by omega
 have n2:¬y.ae=27:=by omega
 have n3:¬0≤y.aN:=by omega
 have n5:¬(y.ae=31∨y.ae=32):=by omega
 have n4:(aP y).ai=9→¬((y.ae=30∧y.res.aJ≠0)∨y.ae=31∨y.ae=32∨y.ae=33∨y.ae=34∨y.ae=17∨y.ae=18):=by
  intro hk;rcases hw with⟨h,_⟩|⟨_,h⟩
  ·exact aX hk h
  ·omega
 exact⟨L.JY,L.ops,L.Uy,L.kp,L.pl,fun h=>aX h n0,L.cZ,fun a b c d e=>Loc.Wl (L.oW a b c d e) rfl rfl rfl rfl rfl rfl rfl,L.ready,L.uP,L.bY,L.tI,L.yC,L.rest,L.br,L.aN,fun a=>⟨hf a,(L.plain a).2.1,(hb a).trans (L.plain a).2.2⟩,fun a c=>aX c n1,fun a=>aX a n2,L.BE,fun a=>⟨fun c d=>aX d n3,fun c=>aX c n5⟩,L.dG,fun a c=>aX c (n4 a),L.num⟩
theorem Loc.Wm{C:Nat}{y:bI}(L:Loc C y)(hw:aW y)(s:Nat)(B9:(aP y).ai=9→y.bk=true):Loc C {y with aN:=(s:Int)}:=by
 have hw':aW {y with aN:=(s:Int)}:=hw;have kM:=iB hw;have n0:¬y.ae=0:=by omega
 exact⟨L.JY,L.ops,L.Uy,L.kp,L.pl,fun h=>aX h n0,L.cZ,fun a b c d e=>Loc.Wl (L.oW a b c d e) rfl rfl rfl rfl rfl rfl rfl,L.ready,L.uP,L.bY,L.tI,L.yC,L.rest,L.br,⟨by simp only;omega,fun h=>aX hw' h⟩,L.plain,L.cO,L.hand,L.BE,fun a=>⟨fun _ _=>B9 a,fun _=>B9 a⟩,L.dG,L.res,L.num⟩
theorem Loc.Wn{C:Nat}{x:bI}(L:Loc C x)(hp:x.ae=16∨x.ae=22∨x.ae=30∧x.res.aJ=1)(z:Int):Loc C {x with wakes:=x.wakes++[z]}:=by
 have n0:¬x.ae=0:=by omega
 exact⟨L.JY,L.ops,L.Uy,L.kp,L.pl,fun h=>aX h n0,L.cZ,fun a b c d e=>Loc.Wl (L.oW a b c d e) rfl rfl rfl rfl rfl rfl rfl,fun h=>by simp,fun a b c d e=>(by simp only at a c e;omega),L.bY,L.tI,L.yC,L.rest,L.br,L.aN,L.plain,L.cO,L.hand,L.BE,L.bk,L.dG,L.res,L.num⟩
section
variable{w w':Wd}{ls:List (List Nat)}
theorem Inv.Wo(I:Inv w ls){z:Nat}{y:bI}(hy:w.gs[z]?=some y)(hw:aW y)(hp:y.aN= -1):(∃s,w.ax[z]?=some (s,false)∧(y.ae=14→s=1))∧∀(j:Nat) u,w.gs[j]?=some u→(z:Int) ∉ u.wakes:=by
 constructor
 ·obtain⟨⟨s,t⟩,hb⟩:∃p,w.ax[z]?=some p:=⟨_,fv (by rw[I.ax];exact(cA hy))⟩;obtain⟨a1,a2,a3,a4,a5,a6,a7⟩:=I.st z y s t hy hb
  cases t with
  |true=>have:=(a3 rfl).2.2.1;omega
  |false=>
   refine⟨s,hb,fun h=>?_⟩;by_cases h0:s=0
   ·have:=a6 h h0;omega
   ·by_cases h2:s=2
    ·have:=(a7 h2).1;omega
    ·omega
 ·intro j u hu hz;obtain⟨i,v,s,h0,h1,h2,h3,_⟩:=I.jn j u z hu hz;obtain rfl:i=z:=by omega
  rw[hy]at h1;cases h1;omega
theorem Inv.wj(I:Inv w ls){s k z:Nat}{l:List Nat}{sd:gn}{y:bI}(hl:ls[k]?=some l)(hm:s∈l)(hs:w.ah[s]?=some sd)(hz:sd.g=z)(hy:w.gs[z]?=some y)(hp:(aP y).ai=9→y.bk=false):∀(j:Nat) u (s':Nat) sd',w.gs[j]?=some u→aT u→u.br=s'→w.ah[s']?=some sd'→sd'.g≠z:=by
 intro j u s' sd' hu hc hh hs' hg;obtain⟨t,z',AU,y2,h1,h2,h3,h4,h5,h6,h7,h8,h9,ph,rA,uQ,uu⟩:=I.claim j u hu hc;obtain rfl:t=s':=by omega
 rw[hs']at h2;cases h2;obtain rfl:z'=z:=by omega
 rw[hy]at h6;cases h6;by_cases hk:(aP y).ai=9
 ·rw[hp hk]at rA;exact aX (rA hk) (by simp)
 ·obtain⟨ZK,g3,x3,a1,a2,a3,a4,a5,_⟩:=I.EJ k l s hl hm;rw[hs]at a1;cases a1;obtain rfl:g3=z':=by omega
  rw[hy]at a4;cases a4;have e1:y.bY=s:=by rcases a5 with a|a;exact a.2.1;exact aX a.1 hk
  have e2:y.bY=t:=by rcases h7 with a|a;exact a.2.1;exact aX a.1 hk
  obtain rfl:t=s:=by omega
  exact uQ hk k l hl hm
theorem Inv.UY(I:Inv w ls){z:Nat}{y:bI}(hy:w.gs[z]?=some y)(hw:aW y)(hp:y.aN= -1)(Ft:∀(j:Nat) u (s':Nat) sd',w.gs[j]?=some u→aT u→u.br=s'→w.ah[s']?=some sd'→sd'.g≠z)(p q f:Int)(b:Bool)(hf:(aP y).ai≠9→f= -1)(hb:(aP y).ai≠9→b=y.bk):Inv (w.ay z {y with point:=p,bF:=q,fire:=f,bk:=b}) ls∧bK w (w.ay z {y with point:=p,bF:=q,fire:=f,bk:=b}):=by
 have e:aP {y with point:=p,bF:=q,fire:=f,bk:=b}=aP y:=rfl;have ew:aW {y with point:=p,bF:=q,fire:=f,bk:=b}↔aW y:=Iff.rfl;have L:=I.loc z y hy;have kM:=iB hw;have Ko:=xZ kM;have K:=I.iQ (x':={y with point:=p,bF:=q,fire:=f,bk:=b}) hy rfl rfl rfl;have W:=I.jU (x':={y with point:=p,bF:=q,fire:=f,bk:=b}) hy (List.Sublist.refl _);refine⟨I.mn hy ?_ (fun k l s sd _ _ _ _ a c=>⟨(K.2.2 _ _).2 a,c⟩) K.1 K.2.1 (fun j u s sd hu cM hc hh hs hg=>aX hg (Ft j u s sd hu hc hh hs)) (fun h=>aX h Ko.1) (fun h=>aX h Ko.2) (fun s h=>?_) W.1 W.2 rfl rfl rfl I.au rfl rfl (I.lock.same hy fun c=>Iff.rfl) rfl rfl rfl (I.st.keep hy id id rfl rfl rfl) (I.jn.keep hy id id (List.Sublist.refl _) id),dW hy rfl,rfl,rfl,rfl,rfl,rfl⟩
 ·exact L.ZJ hw hp p q f b hf hb
 ·simp only at h;omega
theorem Inv.Wp(I:Inv w ls){z s:Nat}{y:bI}{sd:gn}(hy:w.gs[z]?=some y)(hw:aW y)(hp:y.aN= -1)(Ft:∀(j:Nat) u (s':Nat) sd',w.gs[j]?=some u→aT u→u.br=s'→w.ah[s']?=some sd'→sd'.g≠z)(hs:w.ah[s]?=some sd)(hl:sd.cK=true)(hg:sd.g=z)(ho:eP y s sd)(hf:y.fire=sd.case)(B9:(aP y).ai=9→y.bk=true)(Ko:∀(k:Nat) l,ls[k]?=some l→s ∉ l):Inv (w.ay z {y with aN:=s}) ls∧bK w (w.ay z {y with aN:=s}):=by
 have e:aP {y with aN:=(s:Int)}=aP y:=rfl;have ew:aW {y with aN:=(s:Int)}↔aW y:=Iff.rfl;have L:=I.loc z y hy;have kM:=iB hw;have JU:=xZ kM;have K:=I.iQ (x':={y with aN:=(s:Int)}) hy rfl rfl rfl;have W:=I.jU (x':={y with aN:=(s:Int)}) hy (List.Sublist.refl _);refine⟨I.mn hy ?_ (fun k l s' sd' wi hm hs' Sb a c=>⟨(K.2.2 _ _).2 a,?_⟩) K.1 K.2.1 (fun j u s sd hu cM hc hh hs hg=>aX hg (Ft j u s sd hu hc hh hs)) (fun h=>aX h JU.1) (fun h=>aX h JU.2) (fun s' h=>?_) W.1 W.2 rfl rfl rfl I.au rfl rfl (I.lock.same hy fun c=>Iff.rfl) rfl rfl rfl (I.st.keep hy id (fun _=>by simp only;omega) rfl rfl rfl) (I.jn.keep hy id (fun _=>by simp only;omega) (List.Sublist.refl _) id),dW hy rfl,rfl,rfl,rfl,rfl,rfl⟩
 ·exact L.Wm hw s B9
 ·rcases c with c|c
  ·exfalso;have e1:y.bY=s':=by rcases a with a|a;exact a.2.1;exact aX a.1 c.1
   have e2:y.bY=s:=(by rcases ho with a|a;exact a.2.1;exact aX a.1 c.1);obtain rfl:s'=s:=by omega
   exact Ko k l wi hm
  ·exact .inr c
 ·simp only at h;obtain rfl:s=s':=by omega
  exact⟨sd,hs,hl,hg,(K.2.2 _ _).2 ho,hf⟩
theorem Inv.Wq(I:Inv w ls){g z:Nat}{x y:bI}(hx:w.gs[g]?=some x)(hp:x.ae=16∨x.ae=22∨x.ae=30∧x.res.aJ=1)(Ow:¬aW x)(hy:w.gs[z]?=some y)(hw:aW y)(hq:0≤y.aN)(hb:∃s,w.ax[z]?=some (s,false)∧(y.ae=14→s=1))(hz:∀(j:Nat) u,w.gs[j]?=some u→(z:Int) ∉ u.wakes):Inv (w.ay g {x with wakes:=x.wakes++[(z:Int)]}) ls∧bK w (w.ay g {x with wakes:=x.wakes++[(z:Int)]}):=by
 have e:aP {x with wakes:=x.wakes++[(z:Int)]}=aP x:=rfl;have ew:aW {x with wakes:=x.wakes++[(z:Int)]}↔aW x:=Iff.rfl;have L:=I.loc g x hx;have JU:¬aT x∧¬bm x:=by unfold aT bm;omega
 have K:=I.iQ (x':={x with wakes:=x.wakes++[(z:Int)]}) hx rfl rfl rfl;obtain⟨s,hb,ff⟩:=hb;have mh:z≠g:=by rintro rfl;rw[hx]at hy;cases hy;exact Ow hw
 refine⟨I.mn hx ?_ (fun k l s sd _ _ _ _ a c=>⟨(K.2.2 _ _).2 a,c⟩) K.1 K.2.1 (fun j u s sd _ _ _ _ _ _ a b c d f=>⟨(K.2.2 _ _).2 a,b,c,d,f,id⟩) (fun h=>aX h JU.1) (fun h=>aX h JU.2) (I.qB hx K.2.2 rfl fun _=>rfl) ?_ ?_ rfl rfl rfl I.au rfl rfl (I.lock.same hx fun c=>Iff.rfl) rfl rfl rfl (I.st.keep hx id id rfl rfl rfl) ?_,dW hx rfl,rfl,rfl,rfl,rfl,rfl⟩
 ·exact L.Wn hp z
 ·rw[tB];exact⟨I.pg g x hx,by simp,fun a ha b hb e=>by simp at hb;subst hb;subst e;exact hz g x hx ha⟩
 ·intro j u a hu cM ha hm;rcases List.mem_append.1 hm with h|h
  ·exact cM (I.rf j u g x a hu hx ha h)
  ·simp at h;subst h;exact hz j u hu ha
 ·intro j u a hu ha
  have old:∀(j0:Nat) (u0:bI),w.gs[j0]?=some u0→a∈u0.wakes→∃(i:Nat) (v:bI) (s:Int),a=i∧(w.gs.set g {x with wakes:=x.wakes++[(z:Int)]})[i]?=some v∧aW v∧0≤v.aN∧w.ax[i]?=some (s,false)∧(v.ae=14→s=1):=by
   intro j0 u0 h0 ha0;obtain⟨i,v,s,b0,b1,b2,b3,b4,b5⟩:=I.jn j0 u0 a h0 ha0;by_cases hi:i=g
   ·subst hi;rw[hx]at b1;cases b1;exact aX b2 Ow
   ·exact⟨i,v,s,b0,by rw[gd _ hi];exact b1,b2,b3,b4,b5⟩
  rcases cX hx hu with⟨h1,h2⟩|⟨cM,hu2⟩
  ·subst h2;rcases List.mem_append.1 ha with h|h
   ·exact old g x hx h
   ·simp at h;subst h;exact⟨z,y,s,rfl,by show(w.gs.set g _)[z]?=_;rw[gd _ mh];exact hy,hw,hq,hb,ff⟩
  ·exact old j u hu2 ha
end
section
variable{w w':Wd}{ls:List (List Nat)}{g z s:Nat}{x y:bI}{sd:gn}
theorem eQ(n:Nat):nat? (n:Int)=some n:=by unfold nat?;simp
theorem sh(hx:w.gs[g]?=some x)(hs:w.ah[s]?=some sd)(hz:sd.g=z)(hy:w.gs[z]?=some y)(cM:z≠g)(hw:x.wakes.length<1000000)(d:Bool):Mach.serve w g s d=some (((w.cJ s {sd with done:=d}).ay z {y with aN:=s}).ay g {x with wakes:=x.wakes++[(z:Int)],br:= -1}):=by
 unfold Mach.serve;simp only[hx,hs,hz,eQ,hy,bW,eN];rw[aE (by omega)]
theorem Kp(hx:w.gs[g]?=some x)(hs:w.ah[s]?=some sd)(hz:sd.g=z)(hy:w.gs[z]?=some y)(cM:z≠g):Mach.pair w g s=some ((w.ay g {x with point:=x.t,bF:=z}).ay z {y with point:=x.t,bF:=g,fire:=sd.case}):=by
 unfold Mach.pair;simp only[hx,hs,hz,eQ,hy,bW,eN];rw[aE (by omega)]
theorem sR(w:Wd){a b:Nat}(h:a≠b)(x y:bI):(w.ay a x).ay b y=(w.ay b y).ay a x:=by
 unfold Wd.ay;simp only[List.set_comm _ _ h]
theorem cY(w:Wd)(a:Nat)(x y:bI):(w.ay a x).ay a y=w.ay a y:=by
 unfold Wd.ay;simp only[my]
theorem mH(hx:w.gs[g]?=some x)(x':bI):(w.ay g x').gs[g]?=some x':=di _ hx
theorem ya{j:Nat}(x':bI)(h:j≠g):(w.ay g x').gs[j]?=w.gs[j]?:=gd _ h
theorem Inv.OX(I:Inv w ls)(hx:w.gs[g]?=some x)(hp:x.ae=16∨x.ae=22∨x.ae=30∧x.res.aJ=1)(Ow:¬aW x)(hy:w.gs[z]?=some y)(hw:aW y)(hq:y.aN= -1)(Ft:∀(j:Nat) u (s':Nat) sd',w.gs[j]?=some u→aT u→u.br=s'→w.ah[s']?=some sd'→sd'.g≠z)(hs:w.ah[s]?=some sd)(hl:sd.cK=true)(hg:sd.g=z)(ho:eP y s sd)(hf:y.fire=sd.case)(B9:(aP y).ai=9→y.bk=true)(Ko:∀(k:Nat) l,ls[k]?=some l→s ∉ l):Inv ((w.ay z {y with aN:=s}).ay g {x with wakes:=x.wakes++[(z:Int)]}) ls∧bK w ((w.ay z {y with aN:=s}).ay g {x with wakes:=x.wakes++[(z:Int)]}):=by
 have mh:z≠g:=by rintro rfl;rw[hx]at hy;cases hy;exact Ow hw
 obtain⟨a1,a2⟩:=I.Wo hy hw hq;obtain⟨I1,K1⟩:=I.Wp hy hw hq Ft hs hl hg ho hf B9 Ko
 obtain⟨I2,K2⟩:=I1.Wq (g:=g) (z:=z) (x:=x) (y:={y with aN:=s}) (by rw[ya _ (dE mh)];exact hx) hp Ow (mH hy _) hw (by simp only;omega) a1 (fun j u hu=>by
  by_cases hj:j=z
  ·subst hj;rw[mH hy]at hu;cases hu;exact a2 _ y hy
  ·rw[ya _ hj]at hu;exact a2 j u hu)
 exact⟨I2,K1.trans K2⟩
theorem Inv.sj(I:Inv w ls)(hx:w.gs[g]?=some x):x.wakes.length≤8:=by
 have h:=jy 8 (x.wakes.map Int.toNat) ?_ ?_
 ·rw[ko]at h;exact h
 ·refine List.pairwise_map.2 ((I.pg g x hx).imp_of_mem fun ha hb cM e=>cM ?_);obtain⟨i,_,_,h1,_⟩:=I.jn g x _ hx ha;obtain⟨j,_,_,h2,_⟩:=I.jn g x _ hx hb;omega
 ·intro a ha;obtain⟨b,hb,rfl⟩:=List.mem_map.1 ha;obtain⟨i,y,_,h1,h2,_⟩:=I.jn g x _ hx hb;have:=cA h2;have:=I.n8;omega
theorem za(I:Inv w ls)(hg:g<w.gs.length){c:Int}(hc:1≤c∧c≤w.au.length):∃h,w.aq[(c-1).toNat]?=some h∧ek w.aq (c-1) g=if h= -1 then(w.aq.set (c-1).toNat g,true)else(w.aq,false):=by
 obtain⟨h,hh⟩:∃h,w.aq[(c-1).toNat]?=some h:=⟨_,fv (by have:=I.aq;omega)⟩;refine⟨h,hh,?_⟩;unfold ek idx;rw[aF (show 0≤c-1 by omega),hh];by_cases e:h= -1
 ·rw[aF ⟨by omega,by omega,by rw[e]⟩,aF e]
 ·rw[aE (fun k=>e (mx k.2.2)),aE e]
theorem Fv(I:Inv w ls)(hx:w.gs[g]?=some x){c:Int}(hc:1≤c∧c≤w.au.length)(hh:aL x c):w.aq[(c-1).toNat]?=some (g:Int)∧oB w.aq (c-1) g=(w.aq.set (c-1).toNat (-1),true):=by
 obtain⟨h,h1⟩:∃h,w.aq[(c-1).toNat]?=some h:=⟨_,fv (by have:=I.aq;omega)⟩;have e:(((c-1).toNat:Int)+1)=c:=by omega
 have h2:=((I.lock _ _ h1).2.2 g x hx).1 (by rw[e];exact hh);subst h2;refine⟨h1,?_⟩;unfold oB idx;rw[aF (show 0≤c-1 by omega),h1,aF ⟨by omega,by omega,rfl⟩]
theorem Inv.XK(I:Inv w ls)(hx:w.gs[g]?=some x)(hs:ea w g){x':bI}(M:lH x x')(p:(x'.ae=14→x.ae=14)∧x'.ae≠19)(hL:Loc w.au.length x'){c:Int}(hc:1≤c∧c≤w.au.length)(hh:∀d,aL x' d↔aL x d∨d=c)(ho:x'.ops=x.ops)(hl:w.aq[(c-1).toNat]?=some (-1)):Inv (({w with aq:=w.aq.set (c-1).toNat g}:Wd).ay g x') ls∧bK w (({w with aq:=w.aq.set (c-1).toNat g}:Wd).ay g x'):=by
 refine⟨I.frame hx hs M p.1 p.2 hL rfl rfl rfl I.au rfl (by simp[Wd.ay]) (I.lock.acquire hx hl (fun d=>?_)) rfl rfl rfl,dW hx ho,rfl,rfl,rfl,rfl,rfl⟩;have e:(((c-1).toNat:Int)+1)=c:=by omega
 rw[e];exact hh d
theorem Inv.rel(I:Inv w ls)(hx:w.gs[g]?=some x)(hs:ea w g){x':bI}(M:lH x x')(p:(x'.ae=14→x.ae=14)∧x'.ae≠19)(hL:Loc w.au.length x'){c:Int}(hc:1≤c∧c≤w.au.length)(hh:∀d,aL x' d↔aL x d∧d≠c)(ho:x'.ops=x.ops)(hl:aL x c):free w (c-1) g={w with aq:=w.aq.set (c-1).toNat (-1)}∧Inv (({w with aq:=w.aq.set (c-1).toNat (-1)}:Wd).ay g x') ls∧bK w (({w with aq:=w.aq.set (c-1).toNat (-1)}:Wd).ay g x'):=by
 obtain⟨f1,f2⟩:=Fv I hx hc hl;refine⟨by unfold Mach.free;rw[f2],I.frame hx hs M p.1 p.2 hL rfl rfl rfl I.au rfl (by simp[Wd.ay]) (I.lock.release hx f1 (fun d=>?_)) rfl rfl rfl,dW hx ho,rfl,rfl,rfl,rfl,rfl⟩;have e:(((c-1).toNat:Int)+1)=c:=by omega
 rw[e];exact hh d
end
section
variable{w w':Wd}{ls:List (List Nat)}{g:Nat}{x x':bI}{C:Nat}
theorem M.s4a(L:Loc C x)(hk:2≤(aP x).ai∧(aP x).ai≤5)(hp:x.ae=4):lH x {x with ae:=5}∧Loc C {x with ae:=5}∧∀c,aL {x with ae:=5} c↔aL x c∨c=(aP x).ch:=by
 have e:aP {x with ae:=5}=aP x:=rfl;obtain⟨l1,l2,l3,l4,l5,l6,l7,l8,l9,kN,kO,kP,kQ,kR,mT,mU,kS,mV,kT,kY,mW,kU,kV,kW⟩:=L;refine⟨?_,?_,?_⟩
 ·constructor<;>simp only[e,hp,aW,aT,bm,eV]at*<;>grind
 ·constructor<;>simp only[e,hp,aW,aT,bm,bG]at*<;>grind
 ·intro c;simp only[aL,e,cH,hp];grind
theorem M.s4b(L:Loc C x)(hk:(aP x).ai=6)(hp:x.ae=4):lH x {x with ae:=21}∧Loc C {x with ae:=21}∧∀c,aL {x with ae:=21} c↔aL x c∨c=(aP x).ch:=by
 have e:aP {x with ae:=21}=aP x:=rfl;obtain⟨l1,l2,l3,l4,l5,l6,l7,l8,l9,kN,kO,kP,kQ,kR,mT,mU,kS,mV,kT,kY,mW,kU,kV,kW⟩:=L;refine⟨?_,?_,?_⟩
 ·constructor<;>simp only[e,hp,aW,aT,bm,eV]at*<;>grind
 ·constructor<;>simp only[e,hp,aW,aT,bm,bG]at*<;>grind
 ·intro c;simp only[aL,e,cH,hp];grind
theorem M.s12(L:Loc C x)(hk:(aP x).ai=2∨(aP x).ai=3)(hp:x.ae=12):lH x {x with ae:=13}∧Loc C {x with ae:=13}∧∀c,aL {x with ae:=13} c↔aL x c∧c≠(aP x).ch:=by
 have e:aP {x with ae:=13}=aP x:=rfl;obtain⟨l1,l2,l3,l4,l5,l6,l7,l8,l9,kN,kO,kP,kQ,kR,mT,mU,kS,mV,kT,kY,mW,kU,kV,kW⟩:=L;refine⟨?_,?_,?_⟩
 ·constructor<;>simp only[e,hp,aW,aT,bm,eV]at*<;>grind
 ·constructor<;>simp only[e,hp,aW,aT,bm,bG]at*<;>grind
 ·intro c;simp only[aL,e,cH,hp];grind
theorem M.ap2(L:Loc C x)(hk:2≤(aP x).ai∧(aP x).ai≤6)(hp:x.ae=16)(hw:x.wakes≠[]):lH x {x with ae:=17}∧Loc C {x with ae:=17}∧∀c,aL {x with ae:=17} c↔aL x c∧c≠(aP x).ch:=by
 have e:aP {x with ae:=17}=aP x:=rfl;obtain⟨l1,l2,l3,l4,l5,l6,l7,l8,l9,kN,kO,kP,kQ,kR,mT,mU,kS,mV,kT,kY,mW,kU,kV,kW⟩:=L;refine⟨?_,?_,?_⟩
 ·constructor<;>simp only[e,hp,aW,aT,bm,eV]at*<;>grind
 ·constructor<;>simp only[e,hp,aW,aT,bm,bG]at*<;>grind
 ·intro c;simp only[aL,e,cH,hp];grind
theorem M.ap3(L:Loc C x)(hk:2≤(aP x).ai∧(aP x).ai≤6)(hp:x.ae=16)(hw:x.wakes=[]):lH x {x with ae:=18}∧Loc C {x with ae:=18}∧∀c,aL {x with ae:=18} c↔aL x c∧c≠(aP x).ch:=by
 have e:aP {x with ae:=18}=aP x:=rfl;obtain⟨l1,l2,l3,l4,l5,l6,l7,l8,l9,kN,kO,kP,kQ,kR,mT,mU,kS,mV,kT,kY,mW,kU,kV,kW⟩:=L;refine⟨?_,?_,?_⟩
 ·constructor<;>simp only[e,hp,aW,aT,bm,eV]at*<;>grind
 ·constructor<;>simp only[e,hp,aW,aT,bm,bG]at*<;>grind
 ·intro c;simp only[aL,e,cH,hp];grind
theorem OY(I:Inv w ls)(hx:w.gs[g]?=some x)(hs:ea w g)(hk:2≤(aP x).ai∧(aP x).ai≤6)(hp:x.ae=4):∃w',Mach.lock w g ((aP x).ch-1)=some w'∧Inv w' ls∧bK w w':=by
 have L:=I.loc g x hx;have hc:=L.cZ (by omega) (by omega) (by omega) (by omega) (by omega);have hg:g<w.gs.length:=cA hx;obtain⟨h,h1,h2⟩:=za I hg hc;unfold Mach.lock;rw[h2];by_cases e:h= -1
 ·subst e;simp only[dt,qd hx];have eE:({w with aq:=w.aq.set ((aP x).ch-1).toNat g}:Wd).gs[g]?=some x:=hx;by_cases h6:(aP x).ai=6
  ·obtain⟨m1,m2,m3⟩:=M.s4b L h6 hp;refine⟨_,qK eE _,?_⟩;simp only[h6,dt];exact I.XK hx hs m1 ⟨by simp,by simp⟩ m2 hc m3 rfl h1
  ·obtain⟨m1,m2,m3⟩:=M.s4a L (by omega) hp;refine⟨_,qK eE _,?_⟩;simp only[h6,dF];exact I.XK hx hs m1 ⟨by simp,by simp⟩ m2 hc m3 rfl h1
 ·simp only[aE e,nW,dF];exact⟨w,rfl,I,bK.refl w⟩
theorem IC(hx:w.gs[g]?=some x):dk w g=some (w.ay g {x with ae:=if x.wakes=[]then 18 else 17}):=qK hx _
theorem ID(I:Inv w ls)(hx:w.gs[g]?=some x)(hs:ea w g)(hk:2≤(aP x).ai∧(aP x).ai≤6)(hp:x.ae=16):∃w',dk (free w ((aP x).ch-1) g) g=some w'∧Inv w' ls∧bK w w':=by
 have L:=I.loc g x hx;have hc:=L.cZ (by omega) (by omega) (by omega) (by omega) (by omega);have hh:aL x (aP x).ch:=by unfold aL cH;rw[aE (by omega)];exact⟨by omega,rfl⟩
 by_cases hw:x.wakes=[]
 ·obtain⟨m1,m2,m3⟩:=M.ap3 L hk hp hw;obtain⟨a,b⟩:=I.rel hx hs m1 ⟨by simp,by simp⟩ m2 hc m3 rfl hh;refine⟨_,by rw[a];exact IC (x:=x) hx,?_⟩;rw[aF hw];exact b
 ·obtain⟨m1,m2,m3⟩:=M.ap2 L hk hp hw;obtain⟨a,b⟩:=I.rel hx hs m1 ⟨by simp,by simp⟩ m2 hc m3 rfl hh;refine⟨_,by rw[a];exact IC (x:=x) hx,?_⟩;rw[aE hw];exact b
theorem Fw(I:Inv w ls)(hx:w.gs[g]?=some x)(hs:ea w g)(hk:(aP x).ai=2∨(aP x).ai=3)(hp:x.ae=12):Inv ((free w ((aP x).ch-1) g).ay g {x with ae:=13}) ls∧bK w ((free w ((aP x).ch-1) g).ay g {x with ae:=13}):=by
 have L:=I.loc g x hx;have hc:=L.cZ (by omega) (by omega) (by omega) (by omega) (by omega);have hh:aL x (aP x).ch:=by unfold aL cH;rw[aE (by omega)];exact⟨by omega,rfl⟩
 obtain⟨m1,m2,m3⟩:=M.s12 L hk hp;obtain⟨a,b⟩:=I.rel hx hs m1 ⟨by simp,by simp⟩ m2 hc m3 rfl hh;rw[a];exact b
end
section
variable{w w':Wd}{ls:List (List Nat)}{g:Nat}{x x':bI}
theorem Inv.OZ(I:Inv w ls)(hx:w.gs[g]?=some x)(M:lH x x')(hL:Loc w.au.length x')(hh:∀c,aL x' c↔aL x c)(e1:w'.gs=w.gs.set g x')(e2:w'.ax.length=w.ax.length)(e3:w'.au=w.au)(e5:w'.aO=w.aO)(e6:w'.aq=w.aq)(e8:w'.ah=w.ah)(e9:w'.aw=w.aw)(Lj:w'.ar=w.ar)(jf:tc w'.gs w'.ax)(J0:pD w'.gs w'.ax):Inv w' ls:=by
 have K:=I.iQ hx M.aP M.bY M.bA;have W:=I.jU (x':=x') hx (by rw[M.wakes];exact List.Sublist.refl _)
 exact I.mn hx hL (fun k l s sd _ _ _ _ a b=>⟨(K.2.2 _ _).2 a,M.q _ b⟩) K.1 K.2.1 (fun j u s sd _ _ _ _ _ _ a b c d e=>⟨(K.2.2 _ _).2 a,M.wt.2 b,M.aN.trans c,by rw[(M.seen b).1];exact d,by rw[M.aP,(M.seen b).2];exact e,by rw[M.aP];exact id⟩)
  (fun h=>aX h M.cl) (fun h=>aX h M.lo) (I.qB hx K.2.2 M.aN fun h=>(M.seen h).1) W.1 W.2 e1 e2 (by rw[e3]) (by rw[e3];exact I.au) (by rw[e5]) (by rw[e6]) (by rw[e6,e1];exact I.lock.same hx hh) e8 e9 Lj jf J0
theorem SQ{b:List (Int×Bool)}{g j:Nat}{p p' q:Int×Bool}(hb:b[g]?=some p)(h:(b.set g p')[j]?=some q):(j=g∧q=p')∨(j≠g∧b[j]?=some q):=by
 rw[sW]at h;split at h
 ·rename_i e;split at h
  ·cases h;exact .inl ⟨e.symm,rfl⟩
  ·cases h
 ·rename_i e;exact .inr ⟨fun e'=>e e'.symm,h⟩
theorem ZL{b:List (Int×Bool)}{g:Nat}{p:Int×Bool}(p':Int×Bool)(hb:b[g]?=some p):(b.set g p')[g]?=some p':=nH (cA hb)
theorem bne{b:List (Int×Bool)}{g j:Nat}(p':Int×Bool)(h:j≠g):(b.set g p')[j]?=b[j]?:=oA (dE h)
theorem qm{b:List (Int×Bool)}{g:Nat}{s:Int}{t:Bool}(h:b[g]?=some (s,t)):bU b g=s∧token b g=t:=by
 unfold bU token idx;simp[h]
theorem yb{b:List (Int×Bool)}{g:Nat}{t:Bool}(h:b[g]?=some (0,t)):(tD b g).1=b.set g (if t then 0 else 1,false):=by
 unfold tD;rw[(qm h).1,(qm h).2]
 cases t<;>simp
theorem Fy(I:Inv w ls)(hx:w.gs[g]?=some x)(hs:ea w g)(hk:(aP x).ai=2∨(aP x).ai=3∨(aP x).ai=9)(hp:x.ae=13):Inv ({w.ay g {x with ae:=14}with ax:=(tD w.ax g).1}:Wd) ls∧bK w ({w.ay g {x with ae:=14}with ax:=(tD w.ax g).1}:Wd):=by
 have L:=I.loc g x hx;obtain⟨t,hb⟩:=hs;have hw:aW x:=by unfold aW;omega
 have hM:lH x {x with ae:=14}∧Loc w.au.length {x with ae:=14}∧∀c,aL {x with ae:=14} c↔aL x c:=by
  rcases hk with h|h|h
  ·exact M.p13 L (.inl h) hp
  ·exact M.p13 L (.inr h) hp
  ·exact M.V2 L h hp
 obtain⟨m1,m2,m3⟩:=hM;have hw':=m1.wt.2 hw;obtain⟨a1,a2,a3,a4,a5,a6,a7⟩:=I.st g x 0 t hx hb;refine⟨I.OZ hx m1 m2 m3 rfl ?_ rfl rfl rfl rfl rfl rfl ?_ ?_,dW hx rfl,rfl,rfl,rfl,rfl,rfl⟩
 ·simp only;rw[yb hb];simp
 ·simp only;rw[yb hb];intro j y s u hy hu;rcases SQ hb hu with⟨rfl,e⟩|⟨cM,hu⟩
  ·obtain rfl:y={x with ae:=14}:=by
    rcases cX hx hy with⟨_,h⟩|⟨h,_⟩
    ·exact h
    ·exact aX rfl h
   simp only[Prod.mk.injEq]at e;obtain⟨rfl,rfl⟩:=e
   cases t
   ·simp
   ·exact⟨by simp,by simp,by simp,by simp,by simp,fun _ _=>(a3 rfl).2.2.1,by simp⟩
  ·rcases cX hx hy with⟨rfl,_⟩|⟨_,rN⟩
   ·exact aX rfl cM
   ·exact I.st j y s u rN hu
 ·simp only;rw[yb hb];intro j y z hy hz
  have xq:∃(j0:Nat) (y0:bI),w.gs[j0]?=some y0∧z∈y0.wakes:=by
   rcases cX hx hy with⟨h1,h2⟩|⟨cM,hy⟩
   ·exact⟨g,x,hx,by rw[h2]at hz;exact hz⟩
   ·exact⟨j,y,hy,hz⟩
  obtain⟨j0,y0,J2,fV⟩:=xq;obtain⟨i,u,s,h0,h1,h2,h3,h4,h5⟩:=I.jn j0 y0 z J2 fV;by_cases hi:i=g
  ·subst hi;rw[hx]at h1;cases h1;rw[hb]at h4;cases h4;exact⟨i,{x with ae:=14},1,h0,di _ hx,hw',h3,ZL _ hb,fun _=>rfl⟩
  ·exact⟨i,u,s,h0,by show(w.gs.set g _)[i]?=_;rw[gd _ hi];exact h1,h2,h3,by rw[bne _ hi];exact h4,h5⟩
theorem Inv.O4(I:Inv w ls)(hx:w.gs[g]?=some x)(hs:ea w g)(hw:aW x)(hp:x.ae=14)(e1:x'.ops=x.ops)(e2:x'.at_=x.at_)(e3:x'.bY=x.bY)(e4:x'.bA=x.bA)(e7:x'.aH=x.aH)(e5:x'.wakes=x.wakes)(e6:x'.aN= -1)(vT:x'.ae=15∧(aP x).ai≠9∨x'.ae=31∧(aP x).ai=9)(hL:Loc w.au.length x')(hh:∀c,aL x' c↔aL x c):Inv (w.ay g x') ls∧bK w (w.ay g x'):=by
 have L:=I.loc g x hx;have eg:aP x'=aP x:=oM e1 e2;obtain⟨t,hb⟩:=hs;obtain⟨a1,a2,a3,a4,a5,a6,a7⟩:=I.st g x 0 t hx hb;have hq:=a6 hp rfl
 have ht:t=false:=by
  cases t with
  |false=>rfl
  |true=>exact aX hp (a3 rfl).2.1
 have K:=I.iQ (x':=x') hx eg e3 e4;have W:=I.jU (x':=x') hx (by rw[e5];exact List.Sublist.refl _)
 have Ko:∀(j:Nat) u,w.gs[j]?=some u→(g:Int) ∉ u.wakes:=by
  intro j u hu hz;obtain⟨i,v,s,h0,h1,h2,h3,h4,h5⟩:=I.jn j u g hu hz;obtain rfl:i=g:=by omega
  rw[hx]at h1;cases h1;rw[hb]at h4;cases h4;have:=h5 hp;omega
 refine⟨I.mn hx hL (fun k l s sd _ _ _ _ a c=>⟨(K.2.2 _ _).2 a,?_⟩) K.1 K.2.1 (fun j u s sd _ _ _ _ _ _ a b c _ _=>by omega) (fun h=>?_) (fun h=>?_) (fun s h=>by omega) W.1 W.2 rfl rfl rfl I.au rfl rfl (I.lock.same hx hh) rfl rfl rfl ?_ ?_,dW hx e1,rfl,rfl,rfl,rfl,rfl⟩
 ·rcases c with c|c
  ·omega
  ·rcases vT with⟨h,h2⟩|⟨h,h2⟩
   ·exact aX c.1 h2
   ·obtain⟨s1,s2,s3⟩:=L.oW h2 (by omega) (by omega) (by omega) (by omega);rcases a with a|⟨_,Dj,oF,_⟩
    ·exact aX h2 a.1
    ·have ho:=(s3.own _ _ oF (by omega)).2;obtain⟨i,hi⟩:=List.mem_iff_getElem?.1 ho;refine .inr ⟨by rw[eg];exact h2,.inr (.inr (.inr (.inr (.inl ⟨h,i,?_⟩))))⟩;rw[e7,hi];congr 1;omega
 ·unfold aT at h;omega
 ·unfold bm at h;omega
 ·intro j y s u hy hu;rcases cX hx hy with⟨rfl,rfl⟩|⟨cM,rN⟩
  ·have hu2:w.ax[j]?=some (s,u):=hu;rw[hb]at hu2;cases hu2;exact⟨a1,a2,fun h=>(by rw[ht]at h;cases h),fun h=>by omega,fun h=>by omega,fun h=>by omega,fun h=>by omega⟩
  ·exact I.st j y s u rN hu
 ·intro j y z hy hz
  have xq:∃(j0:Nat) (y0:bI),w.gs[j0]?=some y0∧z∈y0.wakes:=by
   rcases cX hx hy with⟨h1,h2⟩|⟨cM,hy⟩
   ·exact⟨g,x,hx,by rw[h2,e5]at hz;exact hz⟩
   ·exact⟨j,y,hy,hz⟩
  obtain⟨j0,y0,J2,fV⟩:=xq;obtain⟨i,u,s,h0,h1,h2,h3,h4,h5⟩:=I.jn j0 y0 z J2 fV;by_cases hi:i=g
  ·subst hi;exact aX (h0▸fV) (Ko j0 y0 J2)
  ·exact⟨i,u,s,h0,by show(w.gs.set g _)[i]?=_;rw[gd _ hi];exact h1,h2,h3,h4,h5⟩
theorem Inv.Wr(I:Inv w ls)(hx:w.gs[g]?=some x)(hs:ea w g)(hp:x.ae=14):∃(s:Nat) (sd:gn),x.aN=s∧w.ah[s]?=some sd∧sd.cK=true∧sd.g=g∧eP x s sd∧x.fire=sd.case:=by
 obtain⟨t,hb⟩:=hs;have hq:=(I.st g x 0 t hx hb).2.2.2.2.2.1 hp rfl;obtain⟨s,hs⟩:=pz hq;obtain⟨sd,h1,h2,h3,h4,h5⟩:=I.served g x s hx hs;exact⟨s,sd,hs,h1,h2,h3,h4,h5⟩
theorem Dk(I:Inv w ls)(hx:w.gs[g]?=some x)(hs:ea w g)(hk:(aP x).ai=2)(hp:x.ae=14):∃w',lu w g=some w'∧Inv w' ls∧bK w w':=by
 obtain⟨s,sd,h1,h2,h3,h4,h5,h6⟩:=I.Wr hx hs hp;unfold lu;simp only[hx,h1,eQ,h2,bW,eN];obtain⟨m2,m3⟩:=M.Ng (I.loc g x hx) (.inl hk) hp (bZ (if sd.done then 1 else 3)) rfl;exact⟨_,rfl,I.O4 hx hs (by unfold aW;omega) hp rfl rfl rfl rfl rfl rfl rfl (.inl ⟨rfl,by omega⟩) m2 m3⟩
theorem Dl(I:Inv w ls)(hx:w.gs[g]?=some x)(hs:ea w g)(hk:(aP x).ai=3)(hp:x.ae=14)(ch:Int):∃w',j1 w g ch=some w'∧Inv w' ls∧bK w w':=by
 obtain⟨s,sd,h1,h2,h3,h4,h5,h6⟩:=I.Wr hx hs hp;unfold j1;simp only[hx,hp,h1,eQ,h2,bW,eN];rw[aE (by omega),aE (by omega)];obtain⟨m2,m3⟩:=M.Ng (I.loc g x hx) (.inr hk) hp (if sd.done then{aJ:=1,case:= -1,v:=sd.v,ok:=true}else{aJ:=1,case:= -1}) (by split<;>rfl);exact⟨_,rfl,I.O4 hx hs (by unfold aW;omega) hp rfl rfl rfl rfl rfl rfl rfl (.inl ⟨rfl,by omega⟩) m2 m3⟩
theorem LY(I:Inv w ls)(hx:w.gs[g]?=some x)(hs:ea w g)(hk:(aP x).ai=9)(hp:x.ae=14):∃w',uF w g=some w'∧Inv w' ls∧bK w w':=by
 obtain⟨s,sd,h1,h2,h3,h4,h5,h6⟩:=I.Wr hx hs hp;have L:=I.loc g x hx;obtain⟨s1,s2,s3⟩:=L.oW hk (by omega) (by omega) (by omega) (by omega);unfold uF;simp only[hx,h1,eQ,h2,bW,eN]
 have nL:cV (aP x) w.au.length {x with res:=mK sd}:=by
  rcases h5 with h5|⟨_,Dj,oF,c,xz,Ws,hc4⟩
  ·exact aX hk h5.1
  ·have ho:=(s3.own _ _ oF (by omega)).2;obtain⟨_,c',e1,e2,e3,_⟩:=s1.ord _ ho;have e4:((sd.case.toNat:Nat):Int).toNat=sd.case.toNat:=by omega
   rw[e4,xz]at e1
   cases e1;refine .inl ⟨?_,?_,?_,c,?_,e2,e3,?_⟩<;>unfold mK
   ·split
    ·simp
    ·split
     ·simp
     ·split<;>simp
   ·simp only[h6];split
    ·rfl
    ·split
     ·rfl
     ·split<;>rfl
   ·split
    ·exact Dj
    ·split
     ·exact Dj
     ·split<;>exact Dj
   ·split
    ·exact xz
    ·split
     ·exact xz
     ·split<;>exact xz
   ·rw[←hc4];split
    ·simp
    ·split
     ·simp
     ·split
      ·rename_i h;intro _;exact h
      ·simp
 have ic:(mK sd).aJ≠0:=by
  unfold mK;split
  ·simp
  ·split
   ·simp
   ·split<;>simp
 obtain⟨m2,m3⟩:=M.c14 L hk hp (by omega) (mK sd) ic nL;exact⟨_,rfl,I.O4 hx hs (by unfold aW;omega) hp rfl rfl rfl rfl rfl rfl rfl (.inr ⟨rfl,hk⟩) m2 m3⟩
end
end Go.Proofs.YtadifmnmfnihdaaGreat.V
namespace Go.Proofs.YtadifmnmfnihdaaGreat
open Go.RowKit Mach Go.Proofs.Tryz
section
variable{af:Nat}{F:Fx}{w w0 w':World}{m m0 m':Mem}{S S':Wd}{L:List (Nat×Obj)}
theorem zb(X:AB af F m0 w0 m w S L){i rb:Nat}{r:Ring}(h:S.au[i]?=some r)(fA:m.aV (.eU i)=some rb)(ok:r.Ok):Calls prog 209 #[.pointer (some ⟨rb,0,none⟩)] w (eL (.tuple #[I r.get.2.1,.bool r.get.2.2]) fun w'=>AB af F m0 w0 m w' (S.dZ i r.get.1) L):=
 (N2 X.bj h fA ok).mono fun e w' ⟨h1,h2⟩=>⟨h1,X.av h2⟩
theorem qM{g:Nat}{o:cu}{S':Wd}(hm:jZ S g o=some S'):∃S2 v ok,(if cZ S o.ch=true then getRing S o.ch else some (S,0,false))=some (S2,v,ok)∧(if ok=true then fL S2 g fun x=>{x with res:={aJ:=1,case:= -1,v:=v,ok:=true},point:=S2.av,ae:=16}else if o.ai=3 then cD S2 g 10 else fL S2 g fun x=>{x with res:={aJ:=2,case:= -1},point:=S2.av,ae:=16})=some S':=by
 unfold jZ at hm;simp only[bW]at hm;by_cases h:cZ S o.ch=true
 ·rw[aF h]at hm ⊢;simp only[cI]at hm;obtain⟨⟨S2,v,ok⟩,h2,hm⟩:=hm;exact⟨S2,v,ok,h2,hm⟩
 ·rw[aE h]at hm ⊢;exact⟨S,0,false,rfl,hm⟩
theorem IE(R:bz af F w m S)(aG:Good S)(g:Nat)(hg:g<S.gs.length)(o:cu)(bO:eX o.ch)(ca:Option Addr)(cn cc:Nat)(S':Wd)(hm:jZ S g o=some S'):Calls prog 166 #[bR F,I g,.agg #[I o.ai,I o.ch,I o.n,I o.v,.slice ca cn cc,B o.dG]] w (ee fun w'=>At af F m w m w' S'):=by
 have X0:=(AB.iU R).alloc (.cells #[I o.ai,I o.ch,I o.n,I o.v,.slice ca cn cc,B o.dG] 49);have HX:=ag X0;have HM:=ag (gJ X0.bj o.ch);obtain⟨x,hx⟩:∃x,S.gs[g]?=some x:=⟨_,fv hg⟩;obtain⟨S2,v,ok,h2,hm⟩:=qM hm;have c2:=R.dM;have c3:=R.eu;obtain⟨aU,cm,aY,aZ⟩:=R.pB
 cases gv:cZ S o.ch with
 |false=>
  rw[aE (by simp[gv])]at h2
  cases h2;rw[aE (by simp)]at hm;rw[gv]at HM;obtain⟨g2,xV⟩:=R.ef hx 2 _ rfl;obtain⟨g12,xC⟩:=R.ef hx 12 _ rfl;obtain⟨g15,tT⟩:=R.ef hx 15 _ rfl;obtain⟨g16,tU⟩:=R.ef hx 16 _ rfl;obtain⟨g17,tV⟩:=R.ef hx 17 _ rfl;obtain⟨g18,tW⟩:=R.ef hx 18 _ rfl;obtain⟨g19,tX⟩:=R.ef hx 19 _ rfl;have A0:=At.refl R;have HG:=ag hx;by_cases hk:o.ai=3
  ·rw[aF hk]at hm;obtain⟨x',th,rfl⟩:=dr hm;rw[hx]at th
   cases th;have sk:(o.ai==3)=true:=(by simpa using hk);have A1:=A0.g HG.out {x with ae:=10} (q:=2) (v:=I 10)
   have HA:=ag A1;clear A1;clear R aG hx gv hk A0 X0 hm;unfold bR;go_enter func166,ntmps166;go_wp2_with (go_at_call 138;refine HM.out.mono ?_;rintro e w1 ⟨rfl,rfl⟩);refine bodyPost_ret (results_none rfl _ _ _) rfl ?_;exact⟨rfl,HA.out.alloc _⟩
  ·rw[aE hk]at hm;simp only[fL,hx,km,oZ]at hm;subst hm;have sk:(o.ai==3)=false:=by simpa using hk
   have A1:=A0.res HG.out {aJ:=2,case:= -1};have A2:=A1.g (az HG.out) {x with res:={aJ:=2,case:= -1},point:=(S).av} (q:=12) (v:=I S.av);rw[aA]at A2;have A3:=A2.g (az HG.out) {x with res:={aJ:=2,case:= -1},point:=(S).av,ae:=16} (q:=2) (v:=I 16);rw[aA]at A3;have HA:=ag A3;clear A1 A2 A3;clear R aG hx gv hk A0 X0;unfold bR;go_enter func166,ntmps166;go_wp2_with (go_at_call 138;refine HM.out.mono ?_;rintro e w1 ⟨rfl,rfl⟩);go_end0;exact⟨rfl,HA.out.alloc _⟩
 |true=>
  rw[aF gv]at h2;unfold getRing at h2;simp only[bW,cI]at h2;obtain⟨⟨c,r⟩,tS,h2⟩:=h2;obtain⟨hc,hr⟩:=kx tS;clear tS;have eK:=aG.au c r hr;obtain⟨rr,rb,pL,fA,c5,cp⟩:=R.iJ hr;have O8:=R.lt pL;have wU:=R.lt fA;have gm:c<S.au.length:=cA hr;have hs:IntKind.i64.wrap (o.ch-1)=(c:Int):=by rw[jX _ (by omega)];omega
  obtain⟨HR,uv,lP⟩:=ij hr fA eK;rw[gv]at HM;have HG:Hid ((S.dZ c r.get.1).gs[g]?=some x):=hx;obtain⟨rv,rok,Wt⟩:∃rv rok,r.get.2=(rv,rok):=⟨_,_,rfl⟩;have O9:r.get.2.1=rv:=by rw[Wt]
  have Pa:r.get.2.2=rok:=by rw[Wt]
  rw[O9,Pa]at h2;obtain⟨HG1,nU⟩:=dA O9 Pa;clear Wt O9 Pa
  cases rok with
  |true=>
   cases h2;rw[aF rfl]at hm;simp only[fL,HG.out,km,oZ]at hm;subst hm;clear R aG hx gv X0 hr pL fA eK hc;unfold bR;go_enter func166,ntmps166;go_wp2_with (go_at_call 138;refine HM.out.mono ?_;rintro e w1 ⟨rfl,rfl⟩);go_region_with (go_at_call 209;refine(zb (af:=af) (F:=F) (m0:=m) (w0:=w) (m:=m) (L:=[(w.heap.size,.cells #[I o.ai,I o.ch,I o.n,I o.v,.slice ca cn cc,B o.dG] 49)]) (S:=S) ?_ HR.out uv.out lP.out).mono ?_;exact HX.out.aI;rw[HG1.out,nU.out];rintro e wN ⟨rfl,X⟩;have RN:=X.bj;obtain⟨q0,q1,q2,q3,q4,q5⟩:=jD X.head;have e2:=RN.dM;have p2:=RN.g HG.out 2 _ rfl;have wW:=RN.frozen RN.aB.gs (g*25+2);have ZM:=RN.g HG.out 12 _ rfl;have Pb:=RN.frozen RN.aB.gs (g*25+12);have Ip:=RN.g HG.out 15 _ rfl;have Dm:=RN.frozen RN.aB.gs (g*25+15);have UZ:=RN.g HG.out 16 _ rfl;have Fz:=RN.frozen RN.aB.gs (g*25+16);have U0:=RN.g HG.out 17 _ rfl;have FA:=RN.frozen RN.aB.gs (g*25+17);have FB:=RN.g HG.out 18 _ rfl;have FC:=RN.frozen RN.aB.gs (g*25+18);have J1:=RN.g HG.out 19 _ rfl;have FD:=RN.frozen RN.aB.gs (g*25+19);have nb:=X.ne RN.aB.gs;have Kn:=nb.symm;have A0:=X.at_;have A1:=A0.res HG.out {aJ:=1,case:= -1,v:=v,ok:=true};have A2:=A1.g (az HG.out) {x with res:={aJ:=1,case:= -1,v:=v,ok:=true},point:=(S.dZ c r.get.1).av} (q:=12) (v:=I S.av);rw[aA]at A2;have A3:=A2.g (az HG.out) {x with res:={aJ:=1,case:= -1,v:=v,ok:=true},point:=(S.dZ c r.get.1).av,ae:=16} (q:=2) (v:=I 16);rw[aA]at A3;have HA:=ag A3;clear A1 A2 A3;clear A0 X RN)
   all_goals
    go_wp2;refine bodyPost_ret (results_none rfl _ _ _) rfl ?_;exact⟨rfl,HA.out.aI⟩
  |false=>
   cases h2;rw[aE (by simp)]at hm;by_cases hk:o.ai=3
   ·rw[aF hk]at hm;obtain⟨x',th,rfl⟩:=dr hm;rw[HG.out]at th
    cases th;have sk:(o.ai==3)=true:=(by simpa using hk);clear R aG hx gv hk X0 hr pL fA eK hc hm;unfold bR;go_enter func166,ntmps166;go_wp2_with (go_at_call 138;refine HM.out.mono ?_;rintro e w1 ⟨rfl,rfl⟩);go_region_with (go_at_call 209;refine(zb (af:=af) (F:=F) (m0:=m) (w0:=w) (m:=m) (L:=[(w.heap.size,.cells #[I o.ai,I o.ch,I o.n,I o.v,.slice ca cn cc,B o.dG] 49)]) (S:=S) ?_ HR.out uv.out lP.out).mono ?_;exact HX.out.aI;rw[HG1.out,nU.out];rintro e wN ⟨rfl,X⟩;have RN:=X.bj;obtain⟨q0,q1,q2,q3,q4,q5⟩:=jD X.head;have e2:=RN.dM;have p2:=RN.g HG.out 2 _ rfl;have wW:=RN.frozen RN.aB.gs (g*25+2);have ZM:=RN.g HG.out 12 _ rfl;have Pb:=RN.frozen RN.aB.gs (g*25+12);have Ip:=RN.g HG.out 15 _ rfl;have Dm:=RN.frozen RN.aB.gs (g*25+15);have UZ:=RN.g HG.out 16 _ rfl;have Fz:=RN.frozen RN.aB.gs (g*25+16);have U0:=RN.g HG.out 17 _ rfl;have FA:=RN.frozen RN.aB.gs (g*25+17);have FB:=RN.g HG.out 18 _ rfl;have FC:=RN.frozen RN.aB.gs (g*25+18);have J1:=RN.g HG.out 19 _ rfl;have FD:=RN.frozen RN.aB.gs (g*25+19);have nb:=X.ne RN.aB.gs;have Kn:=nb.symm;have A0:=X.at_;have A1:=A0.g HG.out {x with ae:=10} (q:=2) (v:=I 10);have HA:=ag A1;clear A1;clear A0 X RN)
    all_goals
     go_wp2;refine bodyPost_ret (results_none rfl _ _ _) rfl ?_;exact⟨rfl,HA.out.aI⟩
   ·rw[aE hk]at hm;simp only[fL,HG.out,km,oZ]at hm;subst hm;have sk:(o.ai==3)=false:=(by simpa using hk);clear R aG hx gv hk X0 hr pL fA eK hc;unfold bR;go_enter func166,ntmps166;go_wp2_with (go_at_call 138;refine HM.out.mono ?_;rintro e w1 ⟨rfl,rfl⟩);go_region_with (go_at_call 209;refine(zb (af:=af) (F:=F) (m0:=m) (w0:=w) (m:=m) (L:=[(w.heap.size,.cells #[I o.ai,I o.ch,I o.n,I o.v,.slice ca cn cc,B o.dG] 49)]) (S:=S) ?_ HR.out uv.out lP.out).mono ?_;exact HX.out.aI;rw[HG1.out,nU.out];rintro e wN ⟨rfl,X⟩;have RN:=X.bj;obtain⟨q0,q1,q2,q3,q4,q5⟩:=jD X.head;have e2:=RN.dM;have p2:=RN.g HG.out 2 _ rfl;have wW:=RN.frozen RN.aB.gs (g*25+2);have ZM:=RN.g HG.out 12 _ rfl;have Pb:=RN.frozen RN.aB.gs (g*25+12);have Ip:=RN.g HG.out 15 _ rfl;have Dm:=RN.frozen RN.aB.gs (g*25+15);have UZ:=RN.g HG.out 16 _ rfl;have Fz:=RN.frozen RN.aB.gs (g*25+16);have U0:=RN.g HG.out 17 _ rfl;have FA:=RN.frozen RN.aB.gs (g*25+17);have FB:=RN.g HG.out 18 _ rfl;have FC:=RN.frozen RN.aB.gs (g*25+18);have J1:=RN.g HG.out 19 _ rfl;have FD:=RN.frozen RN.aB.gs (g*25+19);have nb:=X.ne RN.aB.gs;have Kn:=nb.symm;have A0:=X.at_;have A1:=A0.res HG.out {aJ:=2,case:= -1};have A2:=A1.g (az HG.out) {x with res:={aJ:=2,case:= -1},point:=(S.dZ c r.get.1).av} (q:=12) (v:=I S.av);rw[aA]at A2;have A3:=A2.g (az HG.out) {x with res:={aJ:=2,case:= -1},point:=(S.dZ c r.get.1).av,ae:=16} (q:=2) (v:=I 16);rw[aA]at A3;have HA:=ag A3;clear A1 A2 A3;clear A0 X RN)
    all_goals
     go_wp2;go_end0;exact⟨rfl,HA.out.aI⟩
end
end Go.Proofs.YtadifmnmfnihdaaGreat
