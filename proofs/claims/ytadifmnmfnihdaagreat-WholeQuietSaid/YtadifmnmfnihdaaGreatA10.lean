import Derived.Test.YtadifmnmfnihdaaGreatA09
set_option linter.all false
set_option maxRecDepth 100000
set_option maxHeartbeats 40000000
namespace Go.Proofs.YtadifmnmfnihdaaGreat
open Mach
variable{n z cp:Nat}{t E S':Wd}{e O:bI}{sd:fE}{u w':World}{D:Mem}{Z:Bool}{R Y:Int}{J:bi}{us:dl}
namespace V
theorem sf:∀(n:Nat) (m c:ce),∃t,m=(dN n m c).1++t/\(dN n m c).2=c++t.reverse/\t<=n
 |0,m,c=>⟨[],by simp[dN]⟩
 |n+1,m,c=>by
  unfold dN;rcases ym m with rfl|⟨a,x,rfl⟩
  .exact⟨[],sX⟩
  rw[yn];simp only[bI0,bd6,Option.some_or,bI1];obtain⟨t,d,e,b⟩:=sf n a (c++[x]);refine⟨t++[x],?_,?_,by simp;exact b⟩;all_goals grind
theorem bf2:∀(n:Nat) (m c:ce),∃t,c=(nS n m c).2++t/\(nS n m c).1=m++t.reverse/\(n<=c->t=n)
 |0,m,c=>⟨[],by simp[nS]⟩
 |n+1,m,c=>by
  unfold nS;rcases ym c with rfl|⟨a,x,rfl⟩
  .exact⟨[],sX⟩
  rw[yn];simp only[bI0,bd6,Option.some_or,bI1];obtain⟨t,b,d,e⟩:=bf2 n (m++[x]) a;grind
theorem bf3{L:List ce}{g:Nat}{c:ce}(h:L[g]?=c):∃A B:ce,L.flatten=A++c++B/\∀a,(L.set g a).flatten=A++a++B:=by
 induction L generalizing g with
 |nil=>simp at h
 |cons d L ih=>
  cases g with
  |zero=>
   simp at h;subst h;exact⟨[],L.flatten,sX,λa=>sX⟩
  |succ g=>
   obtain⟨A,B,b,e⟩:=ih (g:=g) ck0;grind
theorem rQ.small{p:fS}(P:rQ p n z):(p.aK++p.aC.flatten).length<=n:=by
 have h:=jy n ((p.aK++p.aC.flatten).map Int.toNat) ?_ ?_
 .grind
 .refine ak0.2 (P.nd.imp_of_mem λa b c e=>c ?_);have:=(P.kept _ a).1;have:=(P.kept _ b).1;omega
 intro x a;obtain⟨y,b,rfl⟩:=ak3.1 a;obtain⟨_,c,_⟩:=P.kept y b;grind [bV]
theorem iW(p:fS)(y:Nat):p.cK y=true↔(y:Int)<p.cO/\p.bV[y]?=false:=by
 unfold fS.cK idx;grind
theorem bf4{b:Bool}(h:Z=true↔b):Z=b:=by cases Z<;>cases b<;>simp_all
theorem rQ.of{p a:fS}(P:rQ p n z)(l:a.size=p.size)(m:a.most=p.most)(o:a.bV=p.bV.length)(q:a.aC=p.aC.length)(f:∀c∈a.aC,(c:Int)<=p.most)(g:0<=a.cO/\a.cO<=a.bV)(i:(a.aK++a.aC.flatten).Nodup)(j:∀x∈a.aK++a.aC.flatten,0<=x/\a.bV[x.toNat]?=true/\x<a.cO)(r:∀y:Nat,a.cO<=y->y<n->a.bV[y]?=false):rQ a n z:=by
 obtain⟨w,A,B,C,D,E,F,G,H,s⟩:=P.ok;have t:a.bV.length=n:=o.trans P.bV;have k:∀x∈a.aK++a.aC.flatten,0<=x/\x<a.bV.length:=λx b=>by have:=j x b;omega
 have u:(a.aK++a.aC.flatten).length<=n:=by
  have h:=jy n ((a.aK++a.aC.flatten).map Int.toNat) ?_ ?_
  .grind
  .refine ak0.2 (i.imp_of_mem λv I d e=>d ?_);grind
  grind
 have v:n<=64:=by have:=P.bV;omega
 refine⟨⟨oX,oX,g.1,g.2,oX,oX,λx b=>k x (as6 _ b),λc d x b=>k x (List.mem_append_right _ (List.mem_flatten.2 ⟨c,d,b⟩)),by simp at u;omega,λc d=>?_⟩,l.trans P.size,t,q.trans P.aC,by rw[m];exact f,i,j,r⟩;have:=f c d;omega
section
variable{p:fS}{g:Nat}(P:rQ p cp n)(hg:g<n)
include P hg
theorem we:((p.take g).2.2->∃j:Nat,(p.take g).2.1=j/\j<cp/\p.cK j=false/\(p.take g).1.cK j/\(∀y:Nat,y≠j->(p.take g).1.cK y=p.cK y)/\rQ (p.take g).1 cp n)/\((p.take g).2.2=false->(p.take g).1=p):=by
 have k:g<p.aC.length:=by rw[P.aC];exact hg
 obtain⟨c,k⟩:∃c,p.aC[g]?=some c:=⟨_,fv k⟩;have l:c∈p.aC:=lf k;obtain⟨A,B,C,D⟩:=bf3 k;obtain⟨O,Q,E,F,R,S,T,U,W,G⟩:=P.ok;have v:=P.nd;have m:=P.kept
 have H:((p.filled c).1++(p.filled c).2).Perm (p.aK++c)/\((p.filled c).2.length:Int)<=p.most/\((p.filled c).2=[]->(p.filled c).1=p.aK/\c=[]):=by
  unfold fS.filled;split
  .rename_i e;subst e;obtain⟨t,I,w,f⟩:=sf (max 1 (p.most.toNat / 2)) p.aK [];refine⟨?_,?_,λh=>?_⟩
   .grind
   .rw[w];simp;omega
   grind
  rename_i e;exact⟨.refl _,P.most c l,λh=>aX h e⟩
 obtain⟨f1,f2,f3⟩:=H;unfold fS.take;simp only[k];rcases ym (p.filled c).2 with i|⟨o,x,i⟩
 .obtain⟨I,w⟩:=f3 i;rw[i];simp only[List.getLast?_nil];by_cases r:p.cO<p.size
  .rw[aF r];have s:p.cO.toNat<cp:=by have:=P.size;omega
   have u:=P.new p.cO.toNat oX s;refine⟨λ_=>⟨p.cO.toNat,ci8,s,?_,?_,?_,?_⟩,λh=>ck3⟩
   .have h:=iW p p.cO.toNat
    cases z:p.cK p.cO.toNat with
    |false=>rfl
    |true=>have:=(h.1 z).1;omega
   .exact(iW _ _).2 ⟨ci9,u⟩
   .intro y f;refine bf4 ((iW _ _).trans (Iff.trans ?_ (iW _ _).symm));simp only;constructor
    .rintro⟨a,b⟩;exact⟨oX,b⟩
    rintro⟨a,b⟩;exact⟨oX,b⟩
   exact P.of ii ii ii ii P.most (by simp only;have:=P.size;omega) v (λx J=>by have:=m x J;exact⟨this.1,this.2.1,ci9⟩) (λy f q=>P.new y (by simp only at f;omega) q)
  rw[aE r];exact⟨λh=>ck3,λ_=>rfl⟩
 rw[yn]at i;rw[i];simp only[bI0,bd6,Option.some_or,bI1];rw[i]at f1 f2;have r:(x::((p.filled c).1++(p.aC.set g o).flatten)).Perm (p.aK++p.aC.flatten):=by rw[D,C];have J:((p.filled c).1++(o++[x])++(A++B)).Perm (p.aK++c++(A++B)):=f1.append_right _;refine List.Perm.trans ?_ (J.trans ?_);all_goals grind
 have s:x∈p.aK++p.aC.flatten:=r.subset sX;obtain⟨X,K,Y⟩:=m x s;have L:=um K;have u:(x::((p.filled c).1++(p.aC.set g o).flatten)).Nodup:=(r.nodup_iff).2 v;rw[ar8]at u;refine⟨λ_=>⟨x.toNat,oX,by have:=P.bV;omega,?_,?_,?_,?_⟩,λh=>ck3⟩
 .cases z:p.cK x.toNat with
  |false=>rfl
  |true=>
   grind [iW]
 .refine(iW _ _).2 ⟨ci9,?_⟩;simp only;rw[nH L]
 .intro y f;refine bf4 ((iW _ _).trans (Iff.trans ?_ (iW _ _).symm));simp only;rw[oA (dE f)]
 refine P.of ii ii sX sX (λd M=>?_) (by simp only;rw[kI];exact⟨E,F⟩) u.2 (λy f=>?_) (λy f q=>?_)
 .rcases at1 M with h|h
  .exact P.most d h
  rw[h];simp at f2;omega
 .obtain⟨a,b,d⟩:=m y (r.subset (nO _ f));refine⟨a,?_,d⟩;simp only;rw[oA (λe=>?_)]
  .exact b
  have:y=x:=oX
  exact u.1 (this▸f)
 simp only at f ⊢;rw[oA (λe=>oX)];exact P.new y f q
theorem B7(l:p.cK z):(p.nh g z).1.cK z=false/\(∀y:Nat,y≠z->(p.nh g z).1.cK y=p.cK y)/\rQ (p.nh g z).1 cp n:=by
 have i:g<p.aC.length:=by rw[P.aC];exact hg
 obtain⟨c,i⟩:∃c,p.aC[g]?=some c:=⟨_,fv i⟩;have k:c∈p.aC:=lf i;obtain⟨A,B,o,q⟩:=bf3 i;obtain⟨I,J,r,s,K,L,M,O,Q,u⟩:=P.ok;have v:=P.nd;have w:=P.kept;obtain⟨x,C⟩:=(iW p z).1 l;have D:=um C
 have E:((p.mu c).1++(p.mu c).2).Perm (p.aK++c)/\((p.mu c).2.length:Int)+1<=p.most:=by
  unfold fS.mu;have R:=P.most c k;split
  .rename_i e;obtain⟨t,f,m,j⟩:=bf2 (c.length-p.most.toNat / 2) p.aK c;have F:=j oX;have G:c.length=(nS (c.length-p.most.toNat / 2) p.aK c).2.length+t.length:=by conv=>lhs;rw[f,aU7]
   refine⟨?_,oX⟩;grind
  grind
 obtain⟨F,S⟩:=E;unfold fS.nh;simp only[i,l,aH6,dF];have m:((p.mu c).1++(p.aC.set g ((p.mu c).2++[(z:Int)])).flatten).Perm ((z:Int)::(p.aK++p.aC.flatten)):=by rw[q,o,bI7];intro a;have:=(bI7.1 F) a;grind
 have j:(z:Int) ∉ p.aK++p.aC.flatten:=λh=>by grind [Int.toNat_natCast]
 refine⟨?_,λy f=>?_,?_⟩
 .have G:=iW {p with aK:=(p.mu c).1,aC:=p.aC.set g ((p.mu c).2++[(z:Int)]),bV:=p.bV.set (z:Int).toNat true} z
  cases H:fS.cK {p with aK:=(p.mu c).1,aC:=p.aC.set g ((p.mu c).2++[(z:Int)]),bV:=p.bV.set (z:Int).toNat true} z with
  |false=>rfl
  |true=>
   grind [Int.toNat_natCast]
 .refine bf4 ((iW _ _).trans (Iff.trans ?_ (iW _ _).symm));simp only[oU];rw[oA (dE f)]
 refine P.of ii ii sX sX (λd G=>?_) (by simp only;rw[kI];exact⟨r,s⟩) (m.nodup_iff.2 (ar8.2 ⟨j,v⟩)) (λy f=>?_) (λy f H=>?_)
 .rcases at1 G with h|h
  .exact P.most d h
  rw[h];simp;omega
 .simp only[oU];rcases iL.1 (m.subset f)with h|h
  .subst h;exact⟨oX,by rw[oU,nH D],x⟩
  obtain⟨a,b,d⟩:=w y h;refine⟨a,?_,d⟩;rw[oA (λe=>?_)]
  .exact b
  have:y=z:=oX
  exact j (this▸h)
 simp only[oU]at f ⊢;rw[oA (λe=>oX)];exact P.new y f H
end
section
variable{w:Wd}{ls:ap}{g:Nat}{x:bI}
theorem Inv.OZ(I:Inv w ls)(i:w.gs[g]?=x)(M:lH x e)(p:Loc w.au e)(r:∀c,aL e c↔aL x c)(m:t.gs=w.gs.set g e)(v:t.ax=w.ax.length)(n:t.au=w.au)(y:t.aO=w.aO)(o:t.aq=w.aq)(z:t.ah=w.ah)(A:t.ef=w.ef)(B:t.Eg=w.Eg)(C:tc t.gs t.ax)(D:pD t.gs t.ax):Inv t ls:=by
 have K:=I.iQ i M.aP M.bY M.bA;have W:=I.jU (x':=e) i (by rw[M.OK];exact ae0 _)
 exact I.aW6 i p (λk l s E _ _ _ _ a b=>⟨(K.2.2 _ _).2 a,M.q _ b⟩) K.1 K.2.1 (λj u s E _ _ _ _ _ _ a b c d f=>⟨(K.2.2 _ _).2 a,M.wt.2 b,M.aN.trans c,by rw[(M.seen b).1];exact d,by rw[M.aP,(M.seen b).2];exact f,by rw[M.aP];exact id⟩)
  (λh=>aX h M.cl) (λh=>aX h M.lo) (I.qB i K.2.2 M.aN λh=>(M.seen h).1) W.1 W.2 m v (by rw[n]) (by rw[n];exact I.au) (by rw[y]) (by rw[o]) (by rw[o,m];exact I.lock.same i r) z A B C D
section
variable{b:List (Int×Bool)}
theorem SQ{g:Nat}{p a q:Int×Bool}(c:b[g]?=p)(h:(b.set g a)[n]?=q):(n=g/\q=a)\/(n≠g/\b[n]?=q):=by
 grind
theorem ZL{g:Nat}{p:Int×Bool}(a:Int×Bool)(c:b[g]?=p):(b.set g a)[g]?=a:=nH (um c)
theorem bne{g:Nat}(a:Int×Bool)(h:n≠g):(b.set g a)[n]?=b[n]?:=oA (dE h)
theorem qm{g:Nat}{s:Int}(h:b[g]?=(s,Z)):bU b g=s/\token b g=Z:=by
 grind [bU,token,idx]
theorem be3{g:Nat}(h:b[g]?=some (0,Z)):(tD b g).1=b.set g (if Z then 0 else 1,false):=by
 grind [tD,qm]
end
section
variable(I:Inv w ls)(hx:w.gs[g]?=x)(hs:Na w g)
include I hx hs
theorem Fy(K:(aP x).ai=2\/(aP x).ai=3\/(aP x).ai=9)(N:x.ae=13):Inv ({w.ay g {x with ae:=14}with ax:=(tD w.ax g).1}:Wd) ls/\bK w ({w.ay g {x with ae:=14}with ax:=(tD w.ax g).1}:Wd):=by
 have L:=bT4;obtain⟨a,d⟩:=hs;have B:aW x:=by unfold aW;omega
 have C:lH x {x with ae:=14}/\Loc w.au.length {x with ae:=14}/\∀c,aL {x with ae:=14} c↔aL x c:=by grind [M.p13,M.V2]
 obtain⟨p,D,E⟩:=C;have l:=p.wt.2 B;obtain⟨O,Q,F,R,S,T,U⟩:=I.st g x 0 a hx d;refine⟨I.OZ hx p D E ii ?_ rfl ii ii ii ii ii ?_ ?_,dW hx ii,ii,ii,ii,ii,ii⟩
 .simp only;rw[be3 d];simp
 .simp only;rw[be3 d];intro j y s u f k;rcases SQ d k with⟨rfl,b⟩|⟨q,k⟩
  .obtain rfl:y={x with ae:=14}:=by
    rcases cX hx f with⟨_,h⟩|⟨h,_⟩;all_goals grind
   simp only[aS3]at b;obtain⟨rfl,rfl⟩:=b
   cases a
   .simp
   exact⟨sX,sX,sX,sX,sX,λ_ _=>(F ii).2.2.1,sX⟩
  rcases cX hx f with⟨rfl,_⟩|⟨_,rN⟩
  .exact aX ii q
  exact I.st j y s u rN k
 simp only;rw[be3 d];intro j y z f W;have G:∃(m:Nat) (b:bI),w.gs[m]?=b/\z∈b.OK:=by rcases cX hx f with⟨k,r⟩|⟨q,f⟩;all_goals grind
 obtain⟨m,b,J2,H⟩:=G;obtain⟨i,u,s,v,k,r,A,n,J⟩:=I.jn m b z J2 H;by_cases o:i=g
 .subst o;rw[hx]at k;cases k;rw[d]at n;cases n;exact⟨i,{x with ae:=14},1,v,di _ hx,l,A,ZL _ d,λ_=>rfl⟩
 exact⟨i,u,s,v,by show(w.gs.set g _)[i]?=_;rw[gd o];exact k,r,A,by rw[bne _ o];exact n,J⟩
theorem Inv.O4(hw:aW x)(M:x.ae=14)(B:e.ops=x.ops)(N:e.at_=x.at_)(O:e.bY=x.bY)(Q:e.bA=x.bA)(R:e.aH=x.aH)(S:e.OK=x.OK)(e6:e.aN= -1)(T:e.ae=15/\(aP x).ai≠9\/e.ae=31/\(aP x).ai=9)(U:Loc w.au e)(X:∀c,aL e c↔aL x c):Inv (w.ay g e) ls/\bK w (w.ay g e):=by
 have L:=bT4;have C:aP e=aP x:=oM B N;obtain⟨d,D⟩:=hs;obtain⟨Y,Z,a3,a4,a5,a6,a7⟩:=I.st g x 0 d hx D;have hq:=a6 M ii;have ht:d=false:=cp2
 have K:=I.iQ (x':=e) hx C O Q;have W:=I.jU (x':=e) hx (by rw[S];exact ae0 _);have Ko:∀(j:Nat) u,w.gs[j]?=some u->(g:Int) ∉ u.OK:=by intro j u n E;obtain⟨i,v,s,r,A,f,F,G,H⟩:=I.jn j u g n E;grind
 refine⟨I.aW6 hx U (λk l s sd _ _ _ _ a c=>⟨(K.2.2 _ _).2 a,?_⟩) K.1 K.2.1 (λj u s sd _ _ _ _ _ _ a b c _ _=>oX) (λh=>?_) (λh=>?_) (λs h=>oX) W.1 W.2 ii ii ii I.au ii ii (I.lock.same hx X) ii ii ii ?_ ?_,dW hx B,ii,ii,ii,ii,ii⟩
 .rcases c with c|c
  .omega
  rcases T with⟨h,f⟩|⟨h,f⟩
  .exact aX c.1 f
  obtain⟨J,s2,m⟩:=L.oW f oX oX oX oX;rcases a with a|⟨_,Dj,p,_⟩
  .exact aX f a.1
  have q:=(m.own _ _ p oX).2;obtain⟨i,o⟩:=ae3.1 q;refine .inr ⟨by rw[C];exact f,.inr (.inr (.inr (.inr (.inl ⟨h,i,?_⟩))))⟩;rw[R,o];congr 1;omega
 .unfold aT at h;omega
 .unfold bm at h;omega
 .intro j y s u p n;rcases cX hx p with⟨rfl,rfl⟩|⟨cM,rN⟩
  .have hu2:w.ax[j]?=some (s,u):=n;rw[D]at hu2;cases hu2;exact⟨Y,Z,λh=>(by rw[ht]at h;cases h),λh=>oX,λh=>oX,λh=>oX,λh=>oX⟩
  exact I.st j y s u rN n
 intro j y z p E;have PT:∃(q:Nat) (m:bI),w.gs[q]?=m/\z∈m.OK:=by rcases cX hx p with⟨A,f⟩|⟨cM,p⟩;all_goals grind
 obtain⟨q,m,J2,J⟩:=PT;obtain⟨i,u,s,r,A,f,F,G,H⟩:=I.jn q m z J2 J;by_cases o:i=g
 .subst o;exact aX (r▸J) (Ko q m J2)
 exact⟨i,u,s,r,by show(w.gs.set g _)[i]?=_;rw[gd o];exact A,f,F,G,H⟩
theorem Inv.Wr(c:x.ae=14):∃(s:Nat) (b:fE),x.aN=s/\w.ah[s]?=b/\b.cK/\b.g=g/\eP x s b/\x.fire=b.case:=by
 obtain⟨a,d⟩:=hs;have f:=(I.st g x 0 a hx d).2.2.2.2.2.1 c ii;grind [Int.eq_ofNat_of_zero_le,served]
theorem Dk(b:(aP x).ai=2)(a:x.ae=14):∃t,lu w g=some t/\Inv t ls/\bK w t:=by
 obtain⟨s,c,d,f,h,i,j,k⟩:=I.Wr hx hs a;unfold lu;simp only[hx,d,eQ,f,bW,eN];obtain⟨l,m⟩:=M.Ng (I.loc g x hx) (.inl b) a (bZ (if c.done then 1 else 3)) ii;grind [Inv.O4,aW]
theorem Dl(c:(aP x).ai=3)(a:x.ae=14)(d:Int):∃t,j1 w g d=some t/\Inv t ls/\bK w t:=by
 obtain⟨s,b,f,i,j,k,l,m⟩:=I.Wr hx hs a;unfold j1;simp only[hx,a,f,eQ,i,bW,eN];rw[aE oX,aE oX];obtain⟨n,o⟩:=M.Ng (I.loc g x hx) (.inr c) a (if b.done then{aJ:=1,case:= -1,v:=b.v,ok:=true}else{aJ:=1,case:= -1}) (by split<;>rfl);grind [Inv.O4,aW]
theorem LY(hk:(aP x).ai=9)(f:x.ae=14):∃t,uF w g=some t/\Inv t ls/\bK w t:=by
 obtain⟨s,a,i,j,v,y,b,z⟩:=I.Wr hx hs f;have L:=bT4;obtain⟨k,A,l⟩:=bT1;unfold uF;simp only[hx,i,eQ,j,bW,eN]
 have B:cV (aP x) w.au.length {x with res:=mK a}:=by
  rcases b with b|⟨_,C,m,c,n,D,o⟩
  .exact aX hk b.1
  have p:=(l.own _ _ m oX).2;obtain⟨_,E,d,q,r,_⟩:=k.ord _ p;have u:((a.case.toNat:Nat):Int).toNat=a.case.toNat:=oX
  rw[u,n]at d
  cases d;refine .inl ⟨?_,?_,?_,c,?_,q,r,?_⟩<;>unfold mK;all_goals grind
 grind [mK,M.c14,Inv.O4,aW]
end
end
section
variable{w:Wd}{ls:ap}{g s:Nat}{x x':bI}
theorem Ca(h:x.ae≠12/\x.ae≠13/\x.ae≠14/\x.ae≠29/\x.ae≠30/\x.ae≠31/\x.ae≠32)(sd:fE):¬eV x sd:=by
 rintro(⟨_,a,_⟩|⟨_,a⟩);all_goals grind
theorem uy(h:x.ae≠12/\x.ae≠13/\x.ae≠14/\x.ae≠29/\x.ae≠30):¬aW x:=λa=>by have:=iB a;omega
section
variable(I:Inv w ls)(hx:w.gs[g]?=x)(hs:Na w g)
include I hx hs
theorem Cb(F:2<=(aP x).ai/\(aP x).ai<=6\/(aP x).ai=9)(A:x.ae=17):∃z t,x.OK[0]?=some z/\dk (({w with ax:=(ready w.ax z).1}:Wd).ay g {x with OK:=x.OK.drop 1}) g=some t/\Inv t ls/\bK w t:=by
 have L:=bT4;obtain⟨d,G⟩:=hs;have p:¬aW x:=uy oX
 cases q:x.OK with
 |nil=>exact aX q (L.ready A)
 |cons H rest=>
  have S:H∈x.OK:=by rw[q];simp
  obtain⟨j,e,s,rfl,r,J,T,N,ap4⟩:=I.jn g x H hx S;obtain⟨a1,a2,a3,a4,a5,a6,a7⟩:=I.st j e s false r N;have U:=iB J;have X:s=0\/s=1:=oX
  have B:j≠g:=by rintro rfl;rw[hx]at r;cases r;exact p J
  have C:(ready w.ax j).1=w.ax.set j (if s=1 then(0,false)else(0,true)):=by grind [ready,qm]
  obtain⟨x',n,Y,Z,kM⟩:∃x':bI,x'={x with OK:=rest,ae:=if rest=[]then 18 else 17}/\Loc w.au x'/\(∀c,aL x' c↔aL x c)/\(x'.ae=17\/x'.ae=18):=by
   by_cases O:rest=[]
   .subst O;obtain⟨m2,m3⟩:=M.ao3 L F A;grind
   obtain⟨m2,m3⟩:=M.ao2 L F A rest O;grind
  have eg:aP x'=aP x:=by rw[n];rfl
  have K:=I.iQ (x':=x') hx eg (by rw[n]) (by rw[n]);have ZO:x'.OK.Sublist x.OK:=by rw[n,q];exact List.sublist_cons_self _ _
  have W:=I.jU (x':=x') hx ZO;have a0:(j:Int) ∉ rest:=by have:=I.pg g x hx;rw[q,ar8]at this;exact this.1
  refine⟨j,({w with ax:=(ready w.ax j).1}:Wd).ay g x',ii,?_,I.aW6 (w':=({w with ax:=(ready w.ax j).1}:Wd).ay g x') hx Y (λk l s sd _ _ _ _ a c=>aX c (Ca oX sd)) K.1 K.2.1 (λj u s sd _ _ _ _ _ _ a b _ _ _=>aX a (λ_=>p b)) (λh=>ck8) (λh=>ck5) (I.qB hx K.2.2 (by rw[n]) (λh=>aX h p)) W.1 W.2 ii ?_ rfl I.au ii ii (I.lock.same hx Z) ii ii ii ?_ ?_,dW hx (by rw[n]),ii,ii,ii,ii,ii⟩
  .have f:(({w with ax:=(ready w.ax j).1}:Wd).ay g {x with OK:=(((j:Int))::rest).drop 1}).gs[g]?=some {x with OK:=rest}:=by simp only[sU,rC];exact di _ hx
   rw[IC f,cY,n];try simp only[sU,rC]
  .show(ready w.ax j).1.length=w.ax.length;rw[C];simp
  .show tc (w.gs.set g x') (ready w.ax j).1;rw[C];intro i u Q D m o;rcases SQ N o with⟨rfl,f⟩|⟨cM,o⟩
   .rcases cX hx m with⟨h,_⟩|⟨_,m⟩
    .exact aX h B
    rw[r]at m;cases m;rcases X with h|h
    all_goals grind
   rcases cX hx m with⟨rfl,rfl⟩|⟨_,m⟩
   .rw[G]at o;cases o;obtain⟨E,R,b3,b4,b5,b6,b7⟩:=I.st _ x 0 d hx G;grind
   exact I.st i u Q D m o
  show pD (w.gs.set g x') (ready w.ax j).1;rw[C];intro i u a m ha
  have PT:∃(o:Nat) (f:bI),w.gs[o]?=f/\a∈f.OK/\a≠j:=by
   rcases cX hx m with⟨D,R⟩|⟨cM,m⟩
   .grind
   grind [Inv.rf]
  obtain⟨o,f,J2,E,a8⟩:=PT;obtain⟨i',v,Q,h0,D,R,h3,h4,h5⟩:=I.jn o f a J2 E;have XM:i'≠g:=by rintro rfl;rw[hx]at D;cases D;exact p R
  grind [bne]
theorem LZ(o:(aP x).ai=2\/(aP x).ai=3)(p:x.ae=15):∃(s:Nat) (sd:fE),x.bY=s/\w.ah[s]?=sd/\Inv (({w.cJ s {}with Eg:=(w.Eg.nh g x.bY).1}:Wd).ay g {x with bY:= -1,ae:=18}) ls/\bK w (({w.cJ s {}with Eg:=(w.Eg.nh g x.bY).1}:Wd).ay g {x with bY:= -1,ae:=18}):=by
 have L:=bT4;obtain⟨s,f⟩:=pz (L.bY oX oX);obtain⟨sd,m,q,H,J⟩:=I.bY g x s hx f;obtain⟨r,v⟩:=M.Ip L o p;have d:¬aW x:=uy oX;have A:g<w.gs.length:=um hx;have B:=L.yC oX;have W:=I.jU (x':={x with bY:= -1,ae:=18}) hx (ae0 _)
 have C:Inv (w.ay g {x with bY:= -1,ae:=18}) ls:=
  I.aW6 hx r (λk l s sd _ _ _ _ a c=>aX c (Ca oX sd)) (λs h=>ck1) (λi s h=>by simp only[B]at h;simp at h) (λj u s sd _ _ _ _ _ _ a b _ _ _=>aX b d) (λh=>cm8) (λh=>cl9)
   (λs h=>by have:=L.aN.2 d;simp only at h;omega) W.1 W.2 ii ii ii I.au ii ii (I.lock.same hx v) ii ii ii (I.st.same hx hs (λh=>aX h d) ii sX sX) (I.jn.same hx (λh=>aX h d) ii ii sX)
 have D:=I.cK s sd m q;obtain⟨K,E,F⟩:=B7 (g:=g) I.Eg A D;refine⟨s,sd,f,m,?_,dW hx ii,ii,ii,ii,ii,ii⟩;rw[f];refine C.Wk (s:=s) (sd:=sd) (sd':={}) (p':=(w.Eg.nh g s).1) m (λ_ j u n N G=>?_) (by simp only[Wd.ay,kI];exact F) E (λh=>ck3);obtain rfl:j=g:=oX
 rw[mH hx]at n
 cases n;rcases G with⟨_,h,_⟩|⟨h,_⟩
 .simp only at h;omega
 have:(aP x).ai=9:=h;omega
end
theorem Inv.Kq{b:Bool}(I:Inv w ls)(M:w.gs[g]?=x)(N:Na w g)(C:z≠g)(r:w.gs[z]?=e)(v:aW e)(D:e.aN= -1)(E:∀(j:Nat) u (m:Nat) d,w.gs[j]?=some u->aT u->u.br=m->w.ah[m]?=some d->d.g≠z)(O:w.ah[s]?=sd)(Q:sd.cK)(R:sd.g=z)(F:eP e s sd)(S:(aP e).ai=9->b)(T:(aP e).ai≠9->b=e.aR)(U:(aP e).ai≠9->∀(k:Nat) l,ls[k]?=some l->s ∉ l)(X:aT x')(Y:x'.br=s)(Z:aL x' sd.ch)(n:¬aW x)(tR:∀sd,¬eV x sd)(G:x'.ops=x.ops)(e1:x'.at_=x.at_)(e2:x'.bY=x.bY)(e3:x'.bA=x.bA)(H:x'.OK=x.OK)(A:x'.aN=x.aN)(hL:Loc w.au x')(hh:∀c,aL x' c↔aL x c)(p q:Int):Inv ((w.ay z {e with lQ:=p,bF:=q,fire:=sd.case,aR:=b}).ay g x') ls/\bK w ((w.ay z {e with lQ:=p,bF:=q,fire:=sd.case,aR:=b}).ay g x'):=by
 have hf:(aP e).ai≠9->sd.case= -1:=λhk=>by rcases F with⟨_,_,h,_⟩|⟨h,_⟩;all_goals grind
 obtain⟨f,K1⟩:=I.UY r v D E p q sd.case b hf T;have i:(w.ay z {e with lQ:=p,bF:=q,fire:=sd.case,aR:=b}).gs[g]?=x:=by rw[be2 (dE C)];exact M
 have rj:x'.ae=8\/x'.ae=27:=X;have K:=f.iQ (x':=x') i (oM G e1) e2 e3;have W:=f.jU (x':=x') i (by rw[H];exact ae0 _);have RE:¬bm x':=λh=>ck5
 refine⟨f.aW6 i hL (λk l s sd _ _ _ _ a c=>aX c (tR sd)) K.1 K.2.1 (λj u s sd _ _ _ _ _ _ a b _ _ _=>aX b n) (λ_=>?_) (λh=>aX h RE) (f.qB i K.2.2 A (λh=>aX h n)) W.1 W.2 ii ii ii f.au ii ii (f.lock.same i hh) ii ii ii (f.st.same i N (λh=>aX h n) A (λh=>oX) oX) (f.jn.same i (λh=>aX h n) A H (λh=>oX)),K1.trans ⟨dW i G,ii,ii,ii,ii,ii⟩⟩;refine⟨s,z,sd,{e with lQ:=p,bF:=q,fire:=sd.case,aR:=b},Y,O,Q,R,C,mH r _,?_,v,D,ii,S,U,Z,?_⟩
 .exact F
 intro j u m d o cM J SR B;by_cases L:j=z
 .subst L;rw[mH r]at o
  cases o;have:=(xZ (iB v)).1;exact aX J this
 rw[be2 L]at o;exact E j u m d o J SR B
end
section
variable{w w2:Wd}{ls:ap}{g s:Nat}{x x' y:bI}
theorem ky{a:er}(h:fZ w s=some {w with ef:=a})(e:w2.ef=w.ef):fZ w2 s=some {w2 with ef:=a}:=by
 unfold fZ at h ⊢;simp_all
theorem Pd(I:Inv w ls)(a:1<=R/\R<=w.au):1<=R/\R<=w.aq:=by rw[I.aq];exact a
theorem Kr(I:Inv w ls){kk:Int}(b:0<=kk/\kk<16):(w.ef.first kk=(0,false))\/∃(s z:Nat) (l:bv) (sd:fE) (y:bI),w.ef.first kk=((s:Int),true)/\ls[kk.toNat]?=l/\s∈l/\w.ah[s]?=sd/\sd.cK/\sd.g=z/\w.gs[z]?=y/\eP y s sd/\eV y sd/\kk=Lh sd:=by
 obtain⟨k,c⟩:=pz b.1;subst c;have a:=I.q.first k;obtain⟨l,hl⟩:∃l,ls[k]?=some l:=⟨_,fv (by have:=I.bM;omega)⟩;rw[hl]at a
 cases l with
 |nil=>exact .inl a
 |cons s l=>
  obtain⟨sd,z,y,d,e,f,i,j,m,n⟩:=I.EJ k (s::l) s hl sX;exact .inr ⟨s,z,s::l,sd,y,a,ct8,sX,d,e,f,i,j,m,n⟩
theorem bc9(I:Inv w ls)(n:w.gs[g]?=x)(o:¬bm x)(p:w.ah[s]?=sd)(q:aL x sd.ch)(r:1<=sd.ch/\sd.ch<=w.au):∀(j:Nat) u,w.gs[j]?=some u->bm u->u.br≠s:=by
 intro j u m i e;obtain⟨t,k,l,v,a,b,c,d,A,f⟩:=I.look j u m i;obtain rfl:t=s:=oX
 rw[p]at d;cases d;have:=I.lock.one n m q f (Pd I r);subst this;rw[n]at m;cases m;exact o i
theorem Ks(h:Y=2*R-2\/Y=2*R-1)(a:Y=Lh sd):sd.ch=R:=by
 grind [Lh]
theorem wu(b:aP x'=aP x)(a:¬aW x)(c:¬aW x')(d:∀sd,¬eV x sd)(e:¬aT x')(f:¬bm x')(i:x'.bY=x.bY)(j:x'.bA=x.bA)(k:x'.OK=x.OK)(l:x'.aN=x.aN):lH x x':=
 ⟨b,⟨λh=>aX h c,λh=>aX h a⟩,e,f,i,j,k,l,λh=>aX h a,λsd h=>aX h (d sd)⟩
section
variable(I:Inv w ls)(hx:w.gs[g]?=x)
include I hx
theorem Inv.Pe(k:Na w g){l:bv}(m:ls[n]?=l)(o:s∈l)(p:w.ah[s]?=sd)(q:0<=sd.case)(r:bm x')(t:x'.br=s)(v:aL x' sd.ch)(d:¬aW x)(A:∀sd,¬eV x sd)(f:x'.ops=x.ops)(B:x'.at_=x.at_)(C:x'.bY=x.bY)(D:x'.bA=x.bA)(i:x'.OK=x.OK)(e:x'.aN=x.aN)(F:Loc w.au x')(G:∀c,aL x' c↔aL x c):Inv (w.ay g x') ls/\bK w (w.ay g x'):=by
 have J:x'.ae=7\/x'.ae=26\/x'.ae=23:=r;have K:=I.iQ (x':=x') hx (oM f B) C D;have W:=I.jU (x':=x') hx (by rw[i];exact ae0 _);have H:¬aT x':=λh=>ck8
 exact⟨I.aW6 hx F (λn l s sd _ _ _ _ a c=>aX c (A sd)) K.1 K.2.1 (λj u s sd _ _ _ _ _ _ a b _ _ _=>aX b d) (λh=>aX h H) (λ_=>⟨s,n,l,sd,t,m,o,p,q,v⟩) (I.qB hx K.2.2 e (λh=>aX h d)) W.1 W.2 ii ii ii I.au ii ii (I.lock.same hx G) ii ii ii (I.st.same hx k (λh=>aX h d) e (λh=>oX) oX) (I.jn.same hx (λh=>aX h d) e i (λh=>oX)),
  dW hx f,ii,ii,ii,ii,ii⟩
theorem FF(G:¬bm x)(H:∀sd,¬eV x sd){c:Int}(J:1<=c/\c<=w.au)(K:aL x c)(L:R=2*c-2\/R=2*c-1)(p hand:Int):Mach.take w g R p hand=(w,false)\/(∃(s k:Nat) (l:bv) (sd:fE),Mach.take w g R p hand=(w.ay g {x with br:=s,ae:=p},true)/\ls[k]?=l/\s∈l/\w.ah[s]?=sd/\0<=sd.case/\sd.ch=c)\/(∃(s z:Nat) (sd:fE) (y:bI) (f:er),Mach.take w g R p hand=((({w with ef:=f}:Wd).ay z {y with lQ:=w.av,bF:=g,fire:=sd.case}).ay g {x with br:=s,t:=w.av,lQ:=w.av,bF:=z,ae:=hand},true)/\Inv {w with ef:=f} (iA ls s)/\w.ah[s]?=sd/\sd.cK/\sd.g=z/\z≠g/\w.gs[z]?=y/\eP y s sd/\(aP y).ai≠9/\aW y/\y.aN= -1/\sd.ch=c/\(∀(k:Nat) l,(iA ls s)[k]?=some l->s ∉ l)/\∀(j:Nat) u (B:Nat) n,w.gs[j]?=some u->aT u->u.br=B->w.ah[B]?=some n->n.g≠z):=by
 have M:=I.c8;rcases Kr I (kk:=R) oX with h|⟨s,z,l,sd,y,e,o,C,d,N,v,m,D,h9,O⟩
 .left;unfold Mach.take;rw[h];rfl
 right;have q:=Ks L O;have r:z≠g:=by rintro rfl;rw[hx]at m;cases m;exact H sd h9
 by_cases A:0<=sd.case
 .left;refine⟨s,R.toNat,l,sd,?_,o,C,d,A,q⟩;unfold Mach.take;simp only[e,aH6,dF,eQ,hx,d,bW,eN,aF A]
 right;have jA:(aP y).ai≠9:=by rcases D with h|⟨_,h,_⟩;all_goals grind
 have F:aW y/\y.aN= -1:=by
  exact cd8
 have Q:s<w.ah.length:=um d;obtain⟨f,d1,d2,d3⟩:=I.B8 Q (bc9 I hx G d (by rw[q];exact K) (by rw[q];exact J));have S:=I.wj o C d v m (λh=>aX h jA);refine⟨s,z,sd,y,f,?_,d2,d,N,v,r,m,D,jA,F.1,F.2,q,d3,S⟩;unfold Mach.take;simp only[e,aH6,dF,eQ,hx,d,bW,eN,aE A];rw[ky (w2:=w.ay g {x with br:=s,t:=w.av}) d1 rfl];simp only[eN];have T:({(w.ay g {x with br:=s,t:=w.av})with ef:=f}:Wd).gs[g]?=some {x with br:=s,t:=w.av}:=di _ hx;have rN:({(w.ay g {x with br:=s,t:=w.av})with ef:=f}:Wd).gs[z]?=y:=by show(w.gs.set g _)[z]?=_;rw[gd r];exact m
 rw[Kp (sd:=sd) T d v rN r];simp only[eN];rw[aX9 (x:={x with br:=s,t:=w.av,lQ:=w.av,bF:=z}) (by show((((w.gs.set g _).set g _)).set z _)[g]?=_;rw[gd (dE r)];exact di (x:={x with br:=s,t:=w.av}) _ (di _ hx))];simp only[km,oZ,aS3,at6];unfold Wd.ay;simp only[Wd.mk.injEq,true_and,at6];apply ad9;intro i;by_cases e:i=g
 .subst e;have U:i<w.gs.length:=um hx;simp[sW,U]
 by_cases o:i=z
 .subst o;have U:i<w.gs.length:=um m;simp[sW,U,e,dE e]
 simp[sW,dE e,dE o]
theorem Cc(p:Na w g)(q:2<=(aP x).ai/\(aP x).ai<=5)(r:x.ae=6)(A:R=2*(aP x).ch-2\/R=2*(aP x).ch-1):Mach.take w g R 7 8=(w,false)\/∃E B,Mach.take w g R 7 8=(E,true)/\Inv E B/\bK w E:=by
 have L:=bT4;have C:=bT6;have c:aL x (aP x).ch:=cx8
 have u:¬aW x:=uy oX;have d:∀sd,¬eV x sd:=Ca oX;rcases FF I hx (λh=>ck5) d C c A 7 8 with h|⟨s,k,l,sd,e,f,i,j,m,n⟩|⟨s,z,sd,y,D,e,f,i,j,m,n,F,G,H,J,K,N,O,Q⟩
 .exact .inl h
 .right;obtain⟨o,a⟩:=M.p6l L q r s;exact⟨_,ls,e,I.Pe hx p f i j m (.inl rfl) ii (by rw[n];exact(a _).2 c) u d ii ii ii ii ii ii o a⟩
 right;obtain⟨o,a⟩:=M.p6c L q r s w.av w.av z;have v:=f.Kq (x':={x with br:=s,t:=w.av,lQ:=w.av,bF:=z,ae:=8}) (b:=y.aR) hx p n F J K Q i j m G (λh=>aX h H) (λ_=>rfl) (λ_=>O) (.inl rfl) ii (by rw[N];exact(a _).2 c) u d ii ii ii ii ii ii o a w.av g;exact⟨_,_,e,v.1,(show bK w {w with ef:=D}from⟨ii,ii,ii,ii,ii,ii⟩).trans v.2⟩
theorem Kt(v:bm x)(K:¬aW x)(tR:∀sd,¬eV x sd)(lost f:Int)(d:lost≠7/\lost≠26/\lost≠23)(i:Inv (w.ay g {x with br:= -1,ae:=lost}) ls/\(∀c,aL {x with br:= -1,ae:=lost} c↔aL x c)):(∃E A,rD w g lost f=some E/\Inv E A/\bK w E/\E={w.ay g {x with br:= -1,ae:=lost}with ef:=E.ef})\/∃(s z k:Nat) (l:bv) (sd:fE) (y:bI),rD w g lost f=(w.ay z {y with lQ:=w.av,bF:=g,fire:=sd.case,aR:=true}).ay g {x with t:=w.av,lQ:=w.av,bF:=z,ae:=f}/\x.br=s/\w.ah[s]?=sd/\sd.cK/\sd.g=z/\z≠g/\w.gs[z]?=y/\eP y s sd/\(aP y).ai=9/\aW y/\y.aN= -1/\aL x sd.ch/\∀(j:Nat) u (m:Nat) a,w.gs[j]?=some u->aT u->u.br=m->w.ah[m]?=some a->a.g≠z:=by
 obtain⟨s,k,l,sd,a1,n,o,b,L,p⟩:=I.look g x hx v;obtain⟨a,z,y,q,B,e,b4,b5,b6,M⟩:=I.EJ k l s n o;rw[b]at q;cases q;have mh:z≠g:=co4
 have oz:(aP y).ai=9:=by
  exact ce2
 have U1:=I.loc z y b4;have C:nat? x.br=s:=cx6
 unfold rD;simp only[hx,C,eQ,b,e,b4,bW,eN];rw[aE mh]
 cases B9:y.aR with
 |true=>
  left;simp only[dt];have r:s<w.ah.length:=um b
  have D:1<=sd.ch/\sd.ch<=w.au.length:=by
   rcases b5 with⟨h,_⟩|⟨_,_,F,c,N,O,_⟩
   .exact aX oz h
   have d:y.ae≠0/\y.ae≠17/\y.ae≠18/\y.ae≠19:=by rcases b6 with⟨h,_⟩|⟨_,h⟩;all_goals grind
   obtain⟨G,Q,H⟩:=U1.oW oz d.1 d.2.1 d.2.2.1 d.2.2.2;obtain⟨_,R,S,T,U,_⟩:=G.ord _ (H.own _ _ F oX).2;grind
  have J:(w.ay g {x with br:= -1,ae:=lost}).gs[g]?=some {x with br:= -1,ae:=lost}:=di _ hx;obtain⟨W,d1,d2,d3⟩:=i.1.B8 r (bc9 i.1 J (λh=>by unfold bm at h;simp only at h;omega) b ((i.2 _).2 p) D);rw[ky (w2:=w) d1 rfl];exact⟨_,_,ii,d2,⟨dW hx ii,ii,ii,ii,ii,ii⟩,ii⟩
 |false=>
  right;simp only[nW,dF]
  have r:aW y/\y.aN= -1:=by
   exact ca0
  refine⟨s,z,k,l,sd,y,?_,a1,b,B,e,mh,b4,b5,oz,r.1,r.2,p,I.wj n o b e b4 (λ_=>B9)⟩;have D:((w.ay z {y with aR:=true}).ay g {x with t:=w.av}).gs[g]?=some {x with t:=w.av}:=by apply di (x:=x);show(w.gs.set z _)[g]?=_;rw[gd (dE mh)];exact hx
  have rN:((w.ay z {y with aR:=true}).ay g {x with t:=w.av}).gs[z]?=some {y with aR:=true}:=cv9
  rw[Kp (sd:=sd) D b e rN mh];simp only[eN];have F:((((w.ay z {y with aR:=true}).ay g {x with t:=w.av}).ay g {x with t:=w.av,lQ:=w.av,bF:=z}).ay z {y with aR:=true,lQ:=w.av,bF:=g,fire:=sd.case}).gs[g]?=some {x with t:=w.av,lQ:=w.av,bF:=z}:=by show((((w.gs.set z _).set g _).set g _).set z _)[g]?=_;grind
  rw[aX9 F];simp only[oZ];unfold Wd.ay;simp only[Wd.mk.injEq,true_and,at6];apply ad9;grind
theorem FG(i:Na w g)(j:2<=(aP x).ai/\(aP x).ai<=5)(b:x.ae=7):∃E m,rD w g 6 8=some E/\Inv E m/\bK w E:=by
 have L:=bT4;have d:¬aW x:=uy oX;have e:∀sd,¬eV x sd:=Ca oX;have J:∀c,aL x c->c=(aP x).ch:=λc h=>by unfold aL at h;rw[aE oX]at h;exact h.2
 obtain⟨f,a⟩:=M.p7l L j b;have F:=I.ku hx i (x':={x with br:= -1,ae:=6}) (wu ii d (uy sX) e (λh=>cm8) (λh=>cl9) ii ii ii ii) ⟨sX,sX⟩ f a ii;rcases Kt I hx (.inl b) d e 6 8 oX ⟨F.1,a⟩with⟨E,m,n,o,p,_⟩|⟨s,z,k,l,sd,y,n,o,p,r,u,v,A,B,q,C,D,G,H⟩
 .grind
 obtain⟨f,a⟩:=M.p7c L j b w.av w.av z;exact⟨_,ls,n,I.Kq (x':={x with t:=w.av,lQ:=w.av,bF:=z,ae:=8}) hx i v A C D H p r u B (λ_=>rfl) (λh=>aX q h) (λh=>aX q h) (.inl rfl) o ((a _).2 G) d e ii ii ii ii ii ii f a w.av g⟩
end
theorem Inv.Pf(I:Inv w ls)(c:Nat){r:Ring}(b:r.Ok):Inv (w.dZ c r) ls/\bK w (w.dZ c r):=by
 have a:(w.dZ c r).au.length=w.au.length:=cw3
 refine⟨⟨I.n8,I.ax,by rw[a];exact I.c8,by rw[a];exact I.aO,by rw[a];exact I.aq,λd h=>?_,I.JZ,I.aS,I.bM,I.Eg,I.q,by rw[a];exact I.loc,I.lock,I.cK,I.bY,I.bA,I.EJ,I.look,I.claim,I.pE,I.served,I.st,I.jn,I.pg,I.rf⟩,ii,ii,ii,ii,ii,a⟩;grind [Wd.dZ,au]
section
variable(I:Inv w ls)(hx:w.gs[g]?=x)
include I hx
theorem Ku(b:x.ae=8\/x.ae=27\/x.ae=22\/x.ae=23\/x.ae=32)(h:aL x R):1<=R/\R<=w.au:=by
 have L:=bT4;by_cases a:(aP x).ai=9
 .unfold aL at h;rw[aF a]at h;exact(L.oW a oX oX oX oX).1.lk R (bH9 h)
 unfold aL at h;rw[aE a]at h;rw[h.2];exact L.cZ a oX oX oX oX
theorem Inv.Pg(U:Na w g)(hc:aT x)(X:¬aW x)(Y:∀sd,¬eV x sd)(Z:x.br=s):∃(z:Nat) (sd:fE) (y:bI) (k:er),fZ w s=some {w with ef:=k}/\w.ah[s]?=sd/\sd.g=z/\z≠g/\w.gs[z]?=y/\aL x sd.ch/\∀(W:Wd),(W=({w with ef:=k}:Wd)\/∃c r,r.Ok/\W=({w with ef:=k}:Wd).dZ c r)->∀d,uW d sd->∀f:bI,(f.ae=16\/f.ae=22\/f.ae=30/\f.res.aJ=1)->¬aW f->f.ops=x.ops->f.at_=x.at_->f.bY=x.bY->f.bA=x.bA->f.OK=x.OK->f.aN=x.aN->Loc w.au f->(∀c,aL f c↔aL x c)->Inv (((W.cJ s d).ay z {y with aN:=s}).ay g {f with OK:=x.OK++[(z:Int)]}) (iA ls s)/\bK w (((W.cJ s d).ay z {y with aN:=s}).ay g {f with OK:=x.OK++[(z:Int)]}):=by
 obtain⟨i,z,sd,y,h1,m,h3,G,A,H,h7,h8,h9,ph,rA,uQ,B⟩:=bT0;obtain rfl:i=s:=oX
 have Nh:x.ae=8\/x.ae=27:=hc;have mj:i<w.ah.length:=um m;obtain⟨k,d1,d2,d3⟩:=I.B8 mj (bc9 I hx (λh=>ck5) m B (Ku I hx oX B));refine⟨z,sd,y,k,d1,m,G,A,H,B,?_⟩;intro W hW d n f C J L e1 e2 e3 M e5 hL hh
 have D:Inv W (iA ls i)/\bK w W/\W.gs=w.gs/\W.ah=w.ah/\W.ax=w.ax:=by
  rcases hW with rfl|⟨c,r,hr,rfl⟩
  .exact⟨d2,⟨ii,ii,ii,ii,ii,ii⟩,ii,ii,ii⟩
  obtain⟨a,b⟩:=d2.Pf c hr;exact⟨a,(show bK w {w with ef:=k}from⟨ii,ii,ii,ii,ii,ii⟩).trans b,ii,ii,ii⟩
 obtain⟨IW,N,q,es,eb⟩:=D;have o:W.ah[i]?=sd:=by rw[es];exact m
 have I1:=IW.ZG o n;have O:(W.cJ i d).gs[g]?=x:=by show W.gs[g]?=_;rw[q];exact hx
 have xi:Na (W.cJ i d) g:=by unfold Na;show ∃t,W.ax[g]?=_;rw[eb];exact U
 have Q:¬aT f:=λh=>ck8
 have SV:¬bm f:=λh=>ck5
 obtain⟨I2,K2⟩:=I1.ku O xi (wu (oM L e1) X J Y Q SV e2 e3 M e5) ⟨λh=>oX,oX⟩ (by show Loc W.au f;rw[N.au];exact hL) hh L;have ZR:((W.cJ i d).ay g f).gs[g]?=f:=di _ O;have F:((W.cJ i d).ay g f).gs[z]?=y:=by show(W.gs.set g f)[z]?=_;rw[gd A,q];exact H
 have FI:((W.cJ i d).ay g f).ah[i]?=d:=qN o
 have Ft:∀(j:Nat) u (l:Nat) p,((W.cJ i d).ay g f).gs[j]?=some u->aT u->u.br=l->((W.cJ i d).ay g f).ah[l]?=some p->p.g≠z:=by
  intro j u l p hu R SR vz hg;have Wu:(W.gs.set g f)[j]?=some u:=hu;rcases cX (by rw[q];exact hx) Wu with⟨_,h⟩|⟨cM,S⟩
  .subst h;exact Q R
  rw[q]at S;have OT:∃v,w.ah[l]?=some v/\v.g=p.g:=by have Pj:(W.ah.set i d)[l]?=some p:=vz;grind
  obtain⟨v,b1,b2⟩:=OT;exact cM (I.pE j u g x l i v sd S R hx hc SR Z b1 m oX)
 obtain⟨T,K3⟩:=I2.OX ZR C J F h8 h9 Ft FI (n.1.trans h3) (n.2.1.trans G) (n.owns.2 h7) (ph.trans n.2.2.2.1.symm) rA d3;have K:=N.trans ((show bK W (W.cJ i d)from⟨ii,ii,ii,ii,ii,ii⟩).trans (K2.trans K3));have e:((((W.cJ i d).ay g f).ay z {y with aN:=i}).ay g {f with OK:=f.OK++[(z:Int)]})=(((W.cJ i d).ay z {y with aN:=i}).ay g {f with OK:=x.OK++[(z:Int)]}):=by rw[M,sR (dE A),cY]
 rw[e]at T K;exact⟨T,K⟩
theorem Dq(a:Na w g)(j:(aP x).ai=2\/(aP x).ai=4)(hp:x.ae=8)(v:Int):∃E b,aW8 w g v=some E/\Inv E b/\bK w E:=by
 have L:=bT4;have c:¬aW x:=uy oX;obtain⟨s,ON⟩:=bT9;obtain⟨z,sd,y,d,d1,d2,d3,d4,d5,d6,F⟩:=I.Pg hx a (.inl hp) c (Ca oX) ON;obtain⟨e,f⟩:=M.p8 L oX hp (bZ 1) ii;have F:=F _ (.inl rfl) {sd with v:=v,done:=true} ⟨ii,ii,ii,ii,ii⟩ {x with res:=bZ 1,br:= -1,ae:=16} (.inl rfl) (uy sX) ii ii ii ii ii ii e f;have i:nat? x.br=s:=cr9
 unfold aW8;simp only[hx,i,d1,d2,bW,eN];rw[mZ (w:=({w with ef:=d}:Wd).cJ s {sd with v:=v}) (z:=z) (y:=y) (sd:={sd with v:=v}) hx (qN d2) d3 d5 d4 cq6];simp only[eN];rw[qK (x:={x with OK:=x.OK++[(z:Int)],br:= -1}) (di (x:=x) _ cn3)];grind [cY,Wd.cJ,List.set_set]
theorem Dr(d:Na w g)(q:(aP x).ai=3\/(aP x).ai=5)(hp:x.ae=8):∃E e,pZ w g (aP x).ch=some E/\Inv E e/\bK w E:=by
 have L:=bT4;have f:¬aW x:=uy oX;obtain⟨s,ON⟩:=bT9;obtain⟨z,sd,y,a,d1,d2,d3,d4,d5,d6,F⟩:=I.Pg hx d (.inl hp) f (Ca oX) ON;have i:nat? x.br=s:=cr9
 have j:=bT6;obtain⟨k,r,l,ok⟩:=gz I j
 have m:∃w2 v,ik ({w with ef:=a}:Wd) (aP x).ch s=some (w2,v)/\(w2=({w with ef:=a}:Wd)\/∃c r,r.Ok/\w2=({w with ef:=a}:Wd).dZ c r):=by
  have Ht:cZ ({w with ef:=a}:Wd) (aP x).ch=true:=k;have mC:kq ({w with ef:=a}:Wd) (aP x).ch=some (((aP x).ch-1).toNat,r):=l;exact ce4
 obtain⟨W,v,n,b⟩:=m;obtain⟨o,p⟩:=M.p8 L oX hp {aJ:=1,case:= -1,v:=v,ok:=true} rfl;have F:=F W b {sd with done:=true} ⟨ii,ii,ii,ii,ii⟩ {x with res:={aJ:=1,case:= -1,v:=v,ok:=true},br:= -1,ae:=16} (.inl rfl) (uy sX) ii ii ii ii ii ii o p;have zd:W.gs=w.gs/\W.ah=w.ah:=by rcases b with rfl|⟨c,r,_,rfl⟩<;>exact⟨ii,ii⟩
 unfold pZ;simp only[hx,i,d1,n,bW,eN];rw[mZ (w:=W) (z:=z) (y:=y) (sd:=sd) (x:=x) (by rw[zd.1];exact hx) (by rw[zd.2];exact d2) d3 (by rw[zd.1];exact d5) d4 cq6];simp only[eN];rw[qK (x:={x with OK:=x.OK++[(z:Int)],br:= -1}) (di (x:=x) _ cw4)];grind [cY]
end
end
section
variable{w:Wd}{ls:ap}{g s:Nat}{x y:bI}
section
variable(I:Inv w ls)(hx:w.gs[g]?=x)
include I hx
theorem bt7(h:gU w.au x):x.aq.length<=8:=by
 have:=jy 8 (x.aq.map λz=>(z-1).toNat) ?_ ?_
 .grind
 .refine ak0.2 (h.BD.imp_of_mem λ{a b} d f i c=>?_);have:=(h.lk a d).1;have:=(h.lk b f).1;omega
 intro y c;obtain⟨z,d,rfl⟩:=ak3.1 c;have:=h.lk z d;have:=I.c8;omega
theorem tq(b:gU w.au x)(f:1<=x.k/\x.k<=x.aq):∃l,x.aq[(x.k-1).toNat]?=some l/\1<=l/\l<=w.au/\Ys w g=((free w (l-1) g).ay g {x with k:=x.k-1},decide (x.k-1<=0)):=by
 obtain⟨l,a⟩:∃l,x.aq[(x.k-1).toNat]?=some l:=⟨_,fv oX⟩;have c:=b.lk l (lf a);have i:idx x.aq (x.k-1)=some l:=by unfold idx;rw[aF oX];exact a
 have:=bt7 I hx b;have:=I.c8;have j:kJ x.k=true:=co2
 have d:kJ l=true:=co2
 refine⟨l,a,c.1,c.2,?_⟩;unfold Ys;simp_all
theorem Du(q:Na w g)(hk:(aP x).ai=9)(hp:x.ae=30):∃t,iH w g=some t/\Inv t ls/\bK w t:=by
 have L:=bT4;obtain⟨H,s2,U⟩:=bT1;have J:=bT3;obtain⟨l,hl,B,D,K⟩:=tq I hx H J
 have F:aL x l:=by
  exact cd3
 have rel:∀{y:bI} {c:Int},(aL x c/\x.aq[(x.k-1).toNat]?≠some c)↔(aL x c/\c≠l):=λ{y c}=>cr6
 unfold iH;simp only[K,bW,eN];by_cases N:1<x.k
 .have v:decide (x.k-1<=0)=false:=by simp;omega
  rw[v];simp only[dt];obtain⟨i,j,m⟩:=M.an5 L hk hp N;obtain⟨a,b⟩:=I.rel hx q i ⟨by simp[hp],by simp[hp]⟩ j ⟨B,D⟩ (λd=>(m d).trans (rel (y:=x))) ii F;grind
 have r:x.k=1:=oX
 have v:decide (x.k-1<=0)=true:=ci8
 rw[v];simp only[aH6,dF];have Q:((free w (l-1) g).ay g {x with k:=x.k-1}).gs[g]?=some {x with k:=x.k-1}:=di (x:=x) _ hx;rw[qK Q];rw[cY];have R:∀(e:bI) (p:Int),(e={x with k:=x.k-1,ae:=p})->lH x e->Loc w.au e->(∀c,aL e c↔aL x c/\x.aq[(x.k-1).toNat]?≠some c)->p≠14->p≠19->Inv ((free w (l-1) g).ay g e) ls/\bK w ((free w (l-1) g).ay g e):=by intro e p f i j m S A;subst f;obtain⟨a,b⟩:=I.rel hx q i ⟨λh=>aX h S,A⟩ j ⟨B,D⟩ (λd=>(m d).trans (rel (y:=x))) ii F;rw[a];exact b
 refine⟨_,ii,?_⟩;have T:fG {x with k:=x.k-1}=fG x:=rfl;rw[T];unfold fG;by_cases n:x.res.aJ=0
 .rw[aF n];obtain⟨i,j,m⟩:=M.an6 L hk hp r n;simp_all
 rw[aE n];by_cases o:x.bA.any (λs=>s != -1)=true
 .rw[aF o];have u:x.bA≠[]:=by rintro h;rw[h]at o;cases o
  obtain⟨i,j,m⟩:=M.an7 L hk hp r n u;simp_all
 rw[aE o]
 have G:∀s∈x.bA,s= -1:=by
  intro s q;by_cases h:s= -1
  .exact h
  exact aX (List.any_eq_true.2 ⟨s,q,ck0⟩) o
 unfold aP8;by_cases u:x.OK=[]
 .rw[aF u];obtain⟨i,j,m⟩:=M.ao1 L hk hp r n G u;simp_all
 rw[aE u];obtain⟨i,j,m⟩:=M.ao0 L hk hp r n G u;simp_all
theorem Dw(o:Na w g)(hk:(aP x).ai=9)(hp:x.ae=33):∃i f,Ys w g=(i,f)/\((f=false/\Inv i ls/\bK w i)\/(f/\∃t,Gt i g 34=some t/\Inv t ls/\bK w t)):=by
 have L:=bT4;obtain⟨u,s2,F⟩:=bT1;have v:=bT3;obtain⟨l,hl,p,q,A⟩:=tq I hx u v
 have r:aL x l:=by
  exact cd3
 have rel:∀{c:Int},(aL x c/\x.aq[(x.k-1).toNat]?≠c)↔(aL x c/\c≠l):=λ{c}=>cr6
 refine⟨_,_,A,?_⟩;by_cases B:1<x.k
 .left;obtain⟨j,m,n⟩:=M.an8 L hk hp B;obtain⟨a,b⟩:=I.rel hx o j ⟨by simp[hp],by simp[hp]⟩ m ⟨p,q⟩ (λd=>(n d).trans rel) ii r;exact⟨ci8,by rw[a];exact b⟩
 right;have D:((free w (l-1) g).ay g {x with k:=x.k-1}).gs[g]?=some {x with k:=x.k-1}:=di (x:=x) _ hx;obtain⟨j,m,n⟩:=M.an9 L hk hp oX;obtain⟨a,b⟩:=I.rel hx o j ⟨sX,sX⟩ m ⟨p,q⟩ (λd=>(n d).trans rel) ii r;refine⟨ci8,_,aX9 D 34,?_⟩;rw[cY,a];exact b
end
end
end V
open Go.RowKit Go.Proofs.Tryz
section
variable{af:Nat}{F:Fx}{w w0:World}{m m0:Mem}{S:Wd}{L:List (Nat×Obj)}
section
variable(X:AB af F m0 w0 m w S L)
include X
theorem AB.ye(o:Obj)(h:w=n):AB af F m0 w0 m (w.alloc o) S ((n,o)::L):=h▸X.alloc o
theorem Qn(c:S.gs[n]?=e)(d:dU e=R)(a:Nat):gt 170 #[bR F,I n] (w.drewN a) λb w'=>b=R/\∃q,w'=(w.drewN a).drewN q:=
 yd (X.aI (w':=w.drewN a) ii ii ii ii) c d
theorem aI7(b:S.gs[n]?=e)(p:Int):gt 175 #[bR F,I n,p] w (ee λw'=>AB af F m0 w0 m w' (S.ay n (eZ e p)) L):=
 (tj X.bj n e b p).mono λa w' ⟨c,d⟩=>⟨c,X.av d⟩
theorem AB.Qo:∀p∈L,p.1≠w:=by
 intro p a;have:=(dh (X.loc p a).1).1;omega
end
theorem AB.val{b:Nat}{a c f d e:Value}(X:AB af F m0 w0 m w S ((b,.cells #[a,c,f,d,e] 44)::L))(g:w0<=b)(hL:∀p∈L,p.1≠b)(v:Value):AB af F m0 w0 m (w.setCell (b,2) v) S ((b,.cells #[a,c,v,d,e] 44)::L):=by
 refine⟨X.at_.other (X.loc _ (rn ..)).2 g _,λp i=>?_⟩;rcases iL.1 i with h|h
 .subst h;exact⟨ms _ b 2 _ _ v X.head,(X.loc (b,.cells #[a,c,f,d,e] 44) (rn ..)).2⟩
 exact ch1
section
variable(X0:AB af F m0 w0 m w S L)(g:Nat)(x:bI)(hx:S.gs[g]?=x)(i:Int)(hi:dU x=i)(o:cu)(nb:Nat)(ob:Obj)(fD:(nb,ob)∈L)(fP:CB nb ob o.cases)(cc:Nat)(k:Nat)(hk:i=k)(c:Case)(hc:o.cases[k]?=c)
include X0 g x hx i hi o nb ob fD fP cc k hk c hc
theorem Jo(r:c.cF)(s:Nat)(t:x.br=s)(S1:Wd)(u:fZ S s=S1)(a:fE)(f:S1.ah[s]?=a)(b:Wd)(j:Mach.serve (S1.cJ s {a with v:=c.v}) g s true=b)(l:bI)(y:b.gs[g]?=l):gt 115 #[bR F,I g,.agg #[o.ai,o.ch,o.n,o.v,(nb,o.cases.length,cc),o.dG]] w (ee λw'=>∃D,AB af F m0 w0 D w' (b.ay g (eZ {l with res:={aJ:=1,case:=k,ok:=true,v:=0}} 30)) L):=by
 have vA:k<o.cases.length:=um hc;have eM:=bM1;obtain⟨C,E,G⟩:=bS5;have Vb:nb<w:=(dh (X0.loc _ fD).1).1;have R:=X0.bj;have c3:=R.eu;have c8:=R.dR;have H:=R.g hx 9 _ ii;rw[t]at H;obtain⟨aU,Gu,aY,aZ⟩:=R.pB;obtain⟨cs,J,d⟩:=c;simp only at r C E G j;subst r;subst hk;have K:=bS6;have M:=ag (X0.vn (iD o nb cc) (.cells #[B true,I J,I d] 52));have N:=ag (λn=>Qn K hx hi n);have xW:=ag X0.sizeLe;obtain⟨oR,HH,O,Q,z,oh⟩:=mr hx hi u j f y;have mj:s<S1.ah.length:=um f;clear X0 R hx hi fD fP hc u j f y t;unfold bR;go_enter func115,ntmps115;go_wp2_with fail
 go_quiet ((go_at_call 170;exact Calls.quiet_of (N _)));go_wp2_with (go_at_call 150;refine(bb7 M.out.aI O).mono ?_;rintro e T ⟨⟨bb,rfl⟩,X⟩;have RN:=bP5;obtain⟨q0,q1,q2⟩:=Bd X.head;have d9:=RN.ax7;have s5:=RN.s z 5 _ ii;have U:=RN.frozen RN.aB.ah (s*7+5);have W:=(dh X.head).1;have l1:=bS4;have l2:=RN.lt RN.aB.ah;have l3:=bU0;have Y:=bP7;clear X RN);have A:=Y.out.s z {a with v:=d} (q:=5) (v:=I d) oX ii;have Z:=ag (A.ye (n:=T.heap.size) (.cells #[I 1,I k,I 0,B true,I 0] 44) sX);clear A;go_region
 all_goals
  go_wp2_with (go_at_call 152;refine(vj (S:=S1.cJ s {a with v:=d}) Z.out.aI Q).mono ?_;rintro e wM ⟨rfl,mN,X⟩;have RM:=bP5;obtain⟨r0,r1,r2,r3,r4⟩:=bS3;obtain⟨Ip,Dm,Fz,FA,FC,FD,UZ,U0,FB,Bo⟩:=bJ4;have HV:=ag (X.res oh {aJ:=1,case:=k,ok:=true,v:=0});clear X RM);go_wp2_with (go_at_call 175;refine(aI7 (S:=b.ay g {l with res:={aJ:=1,case:=k,ok:=true,v:=0}}) HV.out.aI (az oh) 30).mono ?_;rintro e wK ⟨rfl,X⟩;rw[aA]at X;have HW:=bP7;clear X);exact ci0
theorem Jp(q:c.cF=false)(r:eX c.ch)(s:Nat)(t:x.br=s)(S1:Wd)(u:fZ S s=S1)(y:Good S1)(S2:Wd)(v:Int)(b:ik S1 c.ch s=(S2,v))(a:Wd)(z:Mach.serve S2 g s true=a)(d:bI)(A:a.gs[g]?=d):gt 115 #[bR F,I g,.agg #[o.ai,o.ch,o.n,o.v,(nb,o.cases.length,cc),o.dG]] w (ee λw'=>∃D,AB af F m0 w0 D w' (a.ay g (eZ {d with res:={aJ:=1,case:=k,ok:=true,v:=v}} 30)) L):=by
 have vA:k<o.cases.length:=um hc;have eM:=bM1;obtain⟨E,G,H⟩:=bS5;have Vb:nb<w:=(dh (X0.loc _ fD).1).1;have R:=X0.bj;have c3:=R.eu;have c8:=R.dR;have J:=R.g hx 9 _ ii;rw[t]at J;obtain⟨aU,Gu,aY,aZ⟩:=R.pB;obtain⟨cs,K,M⟩:=c;simp only at q E G H b r;subst q;subst hk;have N:=bS6;have O:=ag (X0.vn (iD o nb cc) (.cells #[B false,I K,I M] 52));have Q:=ag (λn=>Qn N hx hi n);have xW:=ag X0.sizeLe;obtain⟨oR,HH,T,U,f,W⟩:=mr hx hi u z b y;have oh:=ag A;clear X0 R hx hi fD fP hc u z b y A t;unfold bR;go_enter func115,ntmps115;go_wp2_with fail
 go_quiet ((go_at_call 170;exact Calls.quiet_of (Q _)));go_wp2_with (go_at_call 150;refine(bb7 O.out.aI T).mono ?_;rintro e C ⟨⟨bb,rfl⟩,X⟩;have RN:=bP5;obtain⟨q0,q1,q2⟩:=Bd X.head;have Y:=(dh X.head).1;have l1:=bS4;have l3:=bU0;have j:=bP7;clear X RN);have Z:=ag (j.out.ye (n:=C.heap.size) (.cells #[I 1,I k,I 0,B true,I 0] 44) ii);have Zn:=ag (j.out.Qo);have l:Hid (w0.heap.size<=C.heap.size):=j.out.sizeLe;go_wp2_with (go_at_call 165;refine(Gk (S:=S1) Z.out.aI W r f).mono ?_;rintro e wP ⟨rfl,X⟩;obtain⟨r0,r1,r2,r3,r4⟩:=bS3;have Au:=aM X.head 2;have HP:=ag (X.val l Zn (I v));clear X);go_wp2_with (go_at_call 152;refine(vj (S:=S2) HP.out.aI U).mono ?_;rintro e wM ⟨rfl,mN,X⟩;have RM:=bP5;obtain⟨r0,r1,r2,r3,r4⟩:=bS3;obtain⟨Ip,Dm,Fz,FA,FC,FD,UZ,U0,FB,Bo⟩:=bJ4;have HV:=ag (X.res oh {aJ:=1,case:=k,ok:=true,v:=v});clear X RM);go_wp2_with (go_at_call 175;refine(aI7 (S:=a.ay g {d with res:={aJ:=1,case:=k,ok:=true,v:=v}}) HV.out.aI (az oh) 30).mono ?_;rintro e wK ⟨rfl,X⟩;rw[aA]at X;have HW:=bP7;clear X);exact ci0
end
end
theorem xh(p:be)(n:Nat)(A:n=p)(a:am)(Q:Nat)(w:World)(F:aH1 w a p)(C:im p):gt 77 #[(a,n,Q)] w (oV (Below w w)):=by
 unfold im at C;simp only[qs,lm,ak6]at C;obtain⟨⟨G,R⟩,S⟩:=C;rw[<-A]at R S;have d:Hid (∀l∈p,(∀o∈l,yF o=true)/\l.length<=16):=G;have Hn:=ag A;clear A G;have T:=ag F;clear F;go_enter func77,ntmps77;go_wp2;go_loopw [17] (λi wr=>∃j:Nat,i=.int .i64 j/\j<=n/\Hid (Below w w wr)) (λi _=>n-(intOf i).toNat)
 case atStart=>exact⟨0,ii,oX,fp⟩
 obtain⟨j,rfl,hj,b⟩:=hrel;by_cases dD:j<n
 .obtain⟨c,s⟩:∃c,p[j]?=some c:=⟨_,fv cn8⟩;obtain⟨b1,o1,r1,c1,rfl,t,H⟩:=T.out.2 j c s;have t:=cw b cG _ _ t;obtain⟨m,u⟩:=dC (c.length);rw[<-u]at t;have VF:m<=16:=by rw[u];exact(d c (lf s)).2
  have U:Hid (∀o∈c,IV o):=λo f=>WE ((d c (lf s)).1 o f)
  obtain⟨W,HM⟩:=dA H u;have J:=b;clear H u s;go_wp2;go_loopw [26] (λi X=>∃k:Nat,i=.int .i64 k/\k<=m/\Hid (Below w w X)) (λi _=>m-(intOf i).toNat)
  case atStart=>exact⟨0,ii,oX,J⟩
  clear b J t;obtain⟨k,rfl,hk,b⟩:=hrel;by_cases rT:k<m
  .obtain⟨o,f⟩:∃o,c[k]?=some o:=⟨_,fv co8⟩;obtain⟨b2,o2,x,K,rfl,Y,Z,e2,e3,L,e5,M,_⟩:=(W.out.below b cG).2 k o f;have g:=ag (U.out o (lf f));have hs:=b.out.size;have D:Hid (∀y,gt 135 #[.agg #[I o.ai,I o.ch,I o.n,I o.v,.slice x o.cases K,B o.dG]] (wr.alloc y) λe N=>e=Value.bool true/\Below w w N):=λy=>by have r:=(ae5 wr wr).alloc cG y;refine(Ba o g x K (wr.alloc y) (M.below r cG)).mono ?_;rintro e N ⟨he,z⟩;exact⟨he,(b.out.trans (r.mono hs)).trans (z.mono ci8)⟩
   obtain⟨ok,oc,on,ov,E,oe⟩:=o;simp only at Y Z e2 e3 L e5 D;obtain⟨q,O⟩:=dC (E.length);rw[<-O]at L D;clear M f g O;go_wp2_with (go_at_call 135;refine(D _).mono ?_;rintro e w2 ⟨rfl,z⟩;have mq:=ag z;clear z);go_roundw
   case rel=>exact⟨k+1,cj8,oX,mq⟩
   simp[intOf];omega
  obtain rfl:k=m:=oX
  go_wp2;go_roundw
  case rel=>exact⟨j+1,cj8,oX,b⟩
  simp[intOf];omega
 obtain rfl:j=n:=oX
 go_wp2;go_ret;exact⟨ii,b⟩
def eF(a:Nat)(b w:World)(f:bH->Option oJ):Prop:=cN a b w (λk=>(f k).bind (·.1)) eI (λk=>((f k).map (·.2.1)).getD 0) (λk=>((f k).map (·.2.2)).getD [])
section
variable{lo:Nat}{w:World}{f:bH->Option oJ}
theorem DL{β:Type}(g:Option oJ->β)(f:bH->Option oJ)(r:bH){e:Option oJ}(x:β)(h:g e=x):(λk=>g (up f r e k))=up (λk=>g (f k)) r x:=by
 funext k;by_cases a:k=r
 .grind [ub]
 grind [aD]
theorem eF.PL{r:bH}{b:Nat}(h:cN lo u w (up (λk=>(f k).bind (·.1)) r b) eI (up (λk=>((f k).map (·.2.1)).getD 0) r n) (up (λk=>((f k).map (·.2.2)).getD []) r J)):eF lo u w (up f r (some (some b,n,J))):=by
 unfold eF;rw[DL (λe=>e.bind (·.1)) f r b ii,DL (λe=>(e.map (·.2.1)).getD 0) f r n ii,DL (λe=>(e.map (·.2.2)).getD []) f r J rfl];exact h
theorem eF.congr(H:eF lo u w f){a:bH->Option oJ}(h:∀k,a k=f k):eF lo u w a:=by
 have:a=f:=funext h;subst this;exact H
theorem eF.eC(H:eF lo u w f)(a:Below w w w'):eF lo u w' f:=cN.eC H a
theorem eF.drew(H:eF lo u w f):eF lo u w.drew f:=cN.drew H
theorem eF.alloc(H:eF lo u w f)(o:Obj):eF lo u (w.alloc o) f:=cN.alloc H o
theorem eF.uw(H:eF lo u w f):Below lo u w/\lo<=w:=⟨cN.below H,cN.tL H⟩
theorem eF.cell(H:eF lo u w f){r:bH}{b cp j:Nat}{a:bi}(h:f r=(some b,cp,a)){v:Value}(c:a[j]?=v):w.cell? (b,j)=v:=
 cN.cell H (k:=r) ct7 (by simp only[h];exact c)
theorem eF.frozen(H:eF lo u w f){r:bH}{b cp:Nat}{a:bi}(h:f r=(some b,cp,a))(j:Nat):w.frozen? (b,j)=false:=
 cN.frozen H (k:=r) ct7 j
theorem eF.lt(H:eF lo u w f){r:bH}{b cp:Nat}{a:bi}(h:f r=(some b,cp,a)):lo<=b/\b<w:=
 ⟨(cN.lies H r b ct7).1,cN.lt H (k:=r) ct7⟩
theorem eF.set(H:eF lo u w f){r:bH}{b cp j:Nat}{xs:bi}{v:Value}(h:f r=(some b,cp,xs)):eF lo u (w.setCell (b,j) v) (up f r (some (some b,cp,xs.set j v))):=by
 have O:=cN.set H (r:=r) (b:=b) (j:=j) (v:=v) ct7;simp only[h,km,av1]at O;unfold eF;rw[DL (λe=>(e.map (·.2.2)).getD []) f r (xs.set j v) rfl];grind [up]
theorem eF.same(H:eF lo u w f){r:bH}{b j:Nat}{v:Value}(h:f r=(some b,cp,J))(a:J[j]?=v):eF lo u (w.setCell (b,j) v) f:=by
 refine(H.set (v:=v) (j:=j) h).congr λk=>?_
 grind [ub,List.set_getElem_self,aD]
theorem eF.add(H:eF lo u w f){r:bH}{b cp:Nat}{xs:bi}(a:Below w w w')(c:w<=b)(d:aQ0 w' b (eI r) cp xs):eF lo u w' (up f r (some (some b,cp,xs))):=eF.PL (cN.add H a c d)
theorem eF.put(H:eF lo u w f){r:bH}{b cp:Nat}{xs:bi}(d:lo<=b)(j:∀k c q g,f k=some (some c,q,g)->c≠b)(h:aQ0 w b (eI r) cp xs):eF lo u w (up f r (some (some b,cp,xs))):=by
 refine eF.PL (cN.put H d (λk l a=>?_) h)
 cases i:f k with
 |none=>rw[i]at a;cases a
 |some e=>
  grind
theorem eF.row(H:eF lo u w f){r:bH}{p:Nat×Nat}{g n cp:Nat}{b:bi}(c:∀q,eI r=some q->q=p)(d:w.grownBy w' ((f r).bind (·.1)))(a:w'.ownsRow lo p.1 p.2 (g,n,cp) n b)(e:(f r).bind (·.1)=g\/w<=g):eF lo u w' (up f r (some (some g,cp,b))):=eF.PL (cN.row H c d a e)
theorem eF.aa6(H:eF lo u w f){g a i:bH}{d p j l:Nat}{m o:bi}(A:eh w w w' [(g,some n,p,J),(a,some z,j,m),(i,some d,l,o)]):eF lo u w' (up (up (up f g (some (some n,p,J))) a (some (some z,j,m))) i (some (some d,l,o))):=by
 have s:=A.lies (g,some n,p,J) sX n ii;have v:=A.lies (a,some z,j,m) sX z ii;have x:=A.lies (i,some d,l,o) sX d ii;have y:=A.nd;simp at y;have E:=H.uw.2;have B:∀k c q e,f k=some (some c,q,e)->c<w:=λk c q e h=>(H.lt h).2
 have C:=H.add A.below s.1 s.2
 have D:=C.put (r:=a) (b:=z) (cp:=j) (xs:=m) oX (λk c q e h=>by
  by_cases t:k=g
  .grind [ub]
  rw[aD t]at h;have:=B k c q e h;omega) v.2
 refine D.put (r:=i) (b:=d) (cp:=l) (xs:=o) oX (λk c q e h=>?_) x.2;by_cases t:k=a
 .grind [ub]
 grind [aD,ub]
def Ui(j:Nat):bH->Option CK
 | .ops i=>if i=j then some (some (.ops 0))else none
 | .cases i q=>if i=j then some (some (.cases 0 q))else none
 |_=>none
theorem Te{r a:bH}{k:CK}(h:Ui n r=some k)(b:Ui n a=some k):r=a:=by
 cases r<;>cases a<;>simp only[Ui]at h b<;>(first|(cases h;done)|(cases b;done)|skip);all_goals grind
theorem WK{r:bH}{k:CK}(h:Ui n r=some k):eI r=none:=by
 cases r<;>first|rfl|(simp[Ui]at h)
def iK(j:Nat)(f:bH->Option oJ)(a:CK->Option Nat)(cap:CK->Nat)(c:CK->bi):bH->Option oJ:=λr=>match Ui j r with
 |some k=>some (a k,cap k,c k)
 |none=>f r
theorem eF.clone(H:eF lo u w f){s:CK->Option (Nat×Nat)}{i:CK->Option Nat}{cap:CK->Nat}{c:CK->bi}(O:cN w w w' i s cap c):eF lo u w' (iK n f i cap c):=by
 have o:=H.eC O.below;have a:∀r k,Ui n r=some k->iK n f i cap c r=some (i k,cap k,c k):=λr k h=>by unfold iK;rw[h]
 have j:∀r,Ui n r=none->iK n f i cap c r=f r:=λr h=>by unfold iK;rw[h]
 refine⟨cN.below o,cN.tL o,λr g b h e=>?_,λr b h=>?_,λr h=>?_⟩
 .cases d:Ui n r with
  |none=>
   rw[j r d]at h
   cases l:Ui n g with
   |none=>rw[j g l]at e;exact cN.inj H r g b h e
   |some m=>
    rw[a g m l]at e;have q:=(O.lies m b e).1;have v:=cN.lt H h;omega
  |some k=>
   rw[a r k d]at h
   cases l:Ui n g with
   |none=>
    rw[j g l]at e;have q:=(O.lies k b h).1;have v:=cN.lt H e;omega
   |some m=>
    rw[a g m l]at e;have:=O.inj k m b h e;grind [Te]
 .cases d:Ui n r with
  |none=>rw[j r d]at h ⊢;exact cN.lies o r b h
  |some k=>
   rw[a r k d]at h ⊢;obtain⟨q,l,t,v,x,y,z⟩:=O.lies k b h;exact⟨by have:=H.uw.2;omega,l,t,v,x,y,λp m=>by rw[WK d]at m;cases m⟩
 cases d:Ui n r with
 |none=>rw[j r d]at h ⊢;exact cN.none_ o r h
 |some k=>rw[a r k d]at h ⊢;exact O.none_ k h
theorem eF.others(H:eF lo u w f){b:Nat}(i:∀k c q d,f k=some (some c,q,d)->c≠b)(g:lo<=b)(j:Nat)(v:Value):eF lo u (w.setCell (b,j) v) f:=by
 refine cN.other H (a:=(b,j)) (λk e=>?_) g v
 cases h:f k with
 |none=>simp only[h]at e;cases e
 |some y=>
  grind
theorem eF.KD(H:eF lo u w f){b:Nat}(d:∀k c q g,f k=some (some c,q,g)->c≠b)(e:lo<=b):∀(a:bi) (j:Nat) (W:World),eF lo u W f->eF lo u (W.setCells b j a) f
 | [],_,_,h=>h
 |v::a,j,W,h=>eF.KD H d e a (j+1) _ (h.others d e j v)
end
section
variable{P:Program}{ops:Array Oper}{o:Oper}{a:Act}
theorem tt{K:Act->World->Prop}{Q:Exit->Act->World->Prop}{E:Prop}(nX:o.guard=none)(c:TypeId)(x:Operand)(g:o.op=.load c x)(b off:Nat)(i:a.eval x=.pointer (b,off))(e:dl)(m:∀(j:Nat) v,e[j]?=some v->u.cell? (b,off+j)=v)(f:∃d,P.underlying c=some d/\(match d with| .struct _| .array _ _=>true|_=>false)=true)(n:(P.info? c).map (·.size)=e.size)(h:K (a.put o.dst (.agg e)) u):if Region.wanted o (yielded ops a.tmps)=true then Oper.wp P o a u K Q else E:=by
 have k:Region.wanted o (yielded ops a.tmps)=true:=cn1
 rw[aF k];obtain⟨d,f,p⟩:=f;have l:(loadVar c (b,off)).run P u=.ok (.agg e) u:=by grind [run_loadVar_mid]
 unfold Oper.wp execOp;simp only[g,i,Instr.loadAt,Instr.sureAddr,Sem.run_bind,Sem.run_pure,ak2,l];exact h
theorem qR{K:Act->World->Prop}{Q:Exit->Act->World->Prop}{E:Prop}(nX:o.guard=none)(s x:Operand)(t:TypeId)(w:o.op=.call {callee:=.builtin .append,args:=#[s,x],argTypes:=#[t,t]}){e:TypeId}{i:TypeInfo}{z:Value}{size bytes:Nat}(y:P.underlying t=some (.slice e))(A:P.info? e=i)(B:i.zero=z)(d:i.size=size)(k:i.bytes=bytes)(l:z.cells.size=size)(m:0<size)(p:bytes<=1000){w2:World}(C:u.heap=(w2.alloc (us,e)).heap)(q:us.size=size)(D:∀b∈us.toList,b.oneCell')(v:Value)(c:Nat)(F:a.eval s=v)(j:w2.ownsRow n e size v c J)(G:a.eval x=(w2.heap.size,1,1))(H:c<1000001)(f:n<=w2)(h:∀(g:Nat) cap r,r.ownsRow n e size (g,c+1,cap) (c+1) (J++us.toList)->u.grownBy r v.ownBlock->(v.ownBlock=g\/u<=g)->K (a.put o.dst (.slice g (c+1) cap)) r):if Region.wanted o (yielded ops a.tmps)=true then Oper.wp P o a u K Q else E:=by
 have I:Region.wanted o (yielded ops a.tmps)=true:=cn1
 rw[aF I];exact EM s x t w y A B d k l m p C q D v c J F j G H f h
end
structure Ny(lo:Nat)(w0 wr:World)(f2:bH->Option oJ)(W:Value->bi)(wb:Nat)(p:be)(j:Nat)(v:Value)(f:bH->Option oJ)(B:Nat->CK->Option Nat)(K:Nat->CK->Nat)(C:Nat->CK->bi):Prop where
 own:eF lo w0 wr f
 aQ:f .aQ=(some wb,0,W v)
 cU:v=nG ((f .gs).bind (·.1)) j (((f .gs).map (·.2.1)).getD 0)
 row:((f .gs).map (·.2.2)).getD []=bT (λi l=>aW0 (nG (B i (some (.ops 0))) l.length (K i (some (.ops 0))))) 0 (p.take j)
 ops:∀(i:Nat) l,i<j->p[i]?=some l->f (.ops i)=(B i (some (.ops 0)),K i (some (.ops 0)),bT (J6 (B i) (K i) 0) 0 l)
 cs:∀(i q:Nat),i<j->f (.cases i q)=(B i (some (.cases 0 q)),K i (some (.cases 0 q)),C i (some (.cases 0 q)))
 cse:∀(i:Nat) l (q:Nat) o,i<j->p[i]?=some l->l[q]?=some o->C i (some (.cases 0 q))=bT fT 0 o.cases
 csn:∀(i:Nat) l (q:Nat),i<j->p[i]?=some l->l[q]?=none->C i (some (.cases 0 q))=[]
 no:∀i,j<=i->f (.ops i)=none/\∀q,f (.cases i q)=none
 yf:∀k,k≠ .aQ->k≠ .gs->(∀i,k≠ .ops i)->(∀i q,k≠ .cases i q)->f k=f2 k
section
variable{lo:Nat}{w0 wr w5 w6:World}{f2:bH->Option oJ}{W:Value->bi}{wb j:Nat}{p:be}{v:Value}{f:bH->Option oJ}{B:Nat->CK->Option Nat}{K:Nat->CK->Nat}{C:Nat->CK->bi}
section
variable(G:Ny lo w0 wr f2 W wb p j v f B K C)
include G
theorem Ny.WL(b:j<=p){a:CK->Option Nat}{cap:CK->Nat}{c:CK->bi}(d:eF lo w0 w5 (iK j f a cap c)):w5.ownsRow lo 100 25 v j (bT (λi l=>aW0 (nG (B i (some (.ops 0))) l.length (K i (some (.ops 0))))) 0 (p.take j)):=by
 have e:iK j f a cap c .gs=f .gs:=rfl;have:=cN.owns d (k:=.gs) (p:=(100,25)) ii dX (n:=j) (by rw[e,G.row,aV9 (k:=25) (λ_ _=>rfl),tC,ar3 b]);grind [row,cU]
theorem Ny.aa7{i:CK->Option (Nat×Nat)}{a:CK->Option Nat}{cap:CK->Nat}{c:CK->bi}(l:cN u u w' a i cap c)(n:wr<u.heap.size):∀k b q d,iK j f a cap c k=some (some b,q,d)->b≠wr:=by
 intro k b q d h e;unfold iK at h;split at h
 .rename_i g o;have m:a g=b:=by grind
  have:=(l.lies g b m).1;omega
 have:=(G.own.lt h).2;omega
theorem Ny.push{l:go}(s:p[j]?=l){m:CK->Option Nat}{cap:CK->Nat}{c:CK->bi}(L:eF lo w0 w5 (iK j f m cap c))(M:c (some (.ops 0))=bT (J6 m cap 0) 0 l)(N:∀(q:Nat) o,l[q]?=some o->c (some (.cases 0 q))=bT fT 0 o.cases)(O:∀(q:Nat),l[q]?=none->c (some (.cases 0 q))=[])(A:w5.grownBy w6 v.ownBlock)(t:w6.ownsRow lo 100 25 (n,j+1,z) (j+1) (bT (λi l=>aW0 (nG (B i (some (.ops 0))) l.length (K i (some (.ops 0))))) 0 (p.take j)++aW0 (nG (m (some (.ops 0))) l (cap (some (.ops 0))))))(D:v.ownBlock=n\/w5<=n)(Q:∀a b,(W a).set 3 b=W b):∃R S T U,Ny lo w0 (w6.setCell (wb,3) (n,j+1,z)) f2 W wb p (j+1) (n,j+1,z) R S T U:=by
 have g:∀k,Ui j k=none->iK j f m cap c k=f k:=λk h=>by unfold iK;rw[h]
 have X:v.ownBlock=(iK j f m cap c .gs).bind (·.1):=by rw[g _ ii,G.cU,mJ]
 rw[X]at A D;have Y:=L.row (r:=.gs) (p:=(100,25)) (λq h=>cs2) A t D;have E:=Y.set (r:=.aQ) (b:=wb) (cp:=0) (j:=3) (xs:=W v) (v:=(n,j+1,z)) (by rw[aD sX,g _ rfl];exact G.aQ);rw[Q]at E;have Z:j<p.length:=um s;refine⟨_,(λi=>if i=j then m else B i),(λi=>if i=j then cap else K i),(λi=>if i=j then c else C i),E,?_,?_,?_,?_,?_,?_,?_,?_,?_⟩
 .rw[ub]
 .rw[aD sX,ub];rfl
 .rw[aD sX,ub,ox s,ni,tC,ar3 oX];simp only[km,av1,bT,at7,wl,dt];congr 1;refine gX λi x d=>?_
  have:i<j:=cp2
  rw[aE oX,aE oX]
 .intro i u y d;rw[aD sX,aD sX];by_cases e:i=j
  .subst e;rw[s]at d;cases d;simp only[dt];unfold iK Ui;simp only[dt];rw[M]
  simp only[aE e];rw[g _ (by simp[Ui,e])];exact G.ops i u oX d
 .intro i q y;rw[aD sX,aD sX];by_cases e:i=j
  .subst e;simp only[dt];unfold iK Ui;simp only[dt]
  simp only[aE e];rw[g _ (by simp[Ui,e])];exact G.cs i q oX
 .intro i u q o y d w;by_cases e:i=j
  .subst e;rw[s]at d;cases d;simp only[dt];exact N q o w
  simp only[aE e];exact G.cse i u q o oX d w
 .intro i u q y d w;by_cases e:i=j
  .subst e;rw[s]at d;cases d;simp only[dt];exact O q w
  simp only[aE e];exact G.csn i u q oX d w
 .intro i y;have e:i≠j:=by omega
  refine⟨?_,λq=>?_⟩
  .rw[aD sX,aD sX,g _ (by simp[Ui,e])];exact(G.no i oX).1
  rw[aD sX,aD sX,g _ (by simp[Ui,e])];exact(G.no i oX).2 q
 intro k F H I J;rw[aD F,aD H]
 rw[g k (by
  cases k<;>first
   |rfl
   |exact aX ii (I _)
   |exact aX ii (J _ _))]
 exact G.yf k F H I J