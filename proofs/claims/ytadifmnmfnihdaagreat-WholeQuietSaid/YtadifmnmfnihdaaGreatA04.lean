import Derived.Test.YtadifmnmfnihdaaGreatA03
set_option linter.all false
set_option maxRecDepth 100000
set_option maxHeartbeats 40000000
namespace Go.Proofs.YtadifmnmfnihdaaGreat
open Go.RowKit Mach
variable{u f w' w2:World}{z cp:Nat}{D:Mem}{t S':Wd}{J:bi}{us:dl}{Y:Int}{Z:Bool}
def up{κ α:Type}[DecidableEq κ](f:κ->α)(k:κ)(x:α):κ->α:=λa=>if a=k then x else f a
theorem ub{κ α:Type}[DecidableEq κ]{f:κ->α}{k:κ}{x:α}:up f k x k=x:=by simp[up]
theorem aD{κ α:Type}[DecidableEq κ]{f:κ->α}{k a:κ}{x:α}(h:a≠k):up f k x a=f a:=by simp[up,h]
structure cN{κ:Type}(lo:Nat)(w0 w:World)(aV:κ->Option Nat)(ty:κ->Option (Nat×Nat))(cap:κ->Nat)(c:κ->bi):Prop where
 below:Below lo w0 w
 tL:lo<=w
 inj:∀k k' b,aV k=some b->aV k'=b->k=k'
 lies:∀k b,aV k=some b->lo<=b/\aQ0 w b (ty k) (cap k) (c k)
 none_:∀k,aV k=none->c k=[]
def nG(b:Option Nat)(n c:Nat):Value:=match b with|none=> ()|some b=> (b,n,c)
theorem qC(m:Mem)(r:bH)(n:Nat):m.cU r n=nG (m.aV r) n (m.cap r):=by unfold Mem.cU nG;cases m.aV r<;>rfl
theorem mJ{b:Option Nat}:(nG b z cp).ownBlock=b:=by cases b<;>rfl
section
variable{κ:Type}{lo:Nat}{w0 w:World}{aV:κ->Option Nat}{ty:κ->Option (Nat×Nat)}{cap:κ->Nat}{c:κ->bi}
theorem cN.lt(H:cN lo w0 w aV ty cap c){k:κ}{b:Nat}(h:aV k=b):b<w:=(H.lies k b h).2.lt
theorem cN.cell(H:cN lo w0 w aV ty cap c){k:κ}{b j:Nat}{v:Value}(h:aV k=b)(a:(c k)[j]?=v):w.cell? (b,j)=v:=(H.lies k b h).2.cell j v a
theorem cN.frozen(H:cN lo w0 w aV ty cap c){k:κ}{b:Nat}(h:aV k=b)(j:Nat):w.frozen? (b,j)=false:=(H.lies k b h).2.frozen j
theorem cN.eC(H:cN lo w0 w aV ty cap c)(a:Below w w w'):cN lo w0 w' aV ty cap c:=
 ⟨H.below.trans (a.mono H.tL),jm H.tL a.size,H.inj,λk b h=>⟨(H.lies k b h).1,(H.lies k b h).2.other (a.block b (H.lt h))⟩,H.none_⟩
theorem cN.drew(H:cN lo w0 w aV ty cap c):cN lo w0 w.drew aV ty cap c:=H.eC (fp).drew
theorem cN.alloc(H:cN lo w0 w aV ty cap c)(o:Obj):cN lo w0 (w.alloc o) aV ty cap c:=H.eC ((fp).alloc cG o)
theorem cN.nil(lo:Nat)(w:World)(h:lo<=w)(ty:κ->Option (Nat×Nat)):cN lo w w (λ_=>none) ty (λ_=>0) (λ_=>[]):=
 ⟨fp,h,λ_ _ _ h=>ck3,λ_ _ h=>ck3,λ_ _=>rfl⟩
theorem cN.congr(H:cN lo w0 w aV ty cap c){a:κ->bi}(h:∀k,a k=c k):cN lo w0 w aV ty cap a:=by
 have:a=c:=funext h;rw[this];exact H
theorem cN.other(H:cN lo w0 w aV ty cap c){a:Addr}(d:∀k,aV k≠a.block)(f:lo<=a.block)(v:Value):cN lo w0 (w.setCell a v) aV ty cap c:=
 ⟨H.below.setCell f v,cv6,H.inj,λk b h=>⟨(H.lies k b h).1,(H.lies k b h).2.other (fQ (λe=>d k (e▸h)))⟩,H.none_⟩
theorem cN.owns(H:cN lo w0 w aV ty cap c){k:κ}{p:Nat×Nat}(j:ty k=p)(e:0<p.2){n:Nat}(a:(c k).length=n*p.2):w.ownsRow lo p.1 p.2 (nG (aV k) n (cap k)) n (c k):=by
 cases f:aV k with
 |none=>
  have:=H.none_ k f;rw[this]at a ⊢
  have:n=0:=by
   obtain h|h:=ay6 n
   .exact h
   have:=Nat.mul_pos h e;simp at a;omega
  subst this;exact ai9 _ _ _ _
 |some b=>
  let⟨l,d,t,m,g,o,q⟩:=H.lies k b f;let⟨rfl,i,r⟩:=q p j;refine⟨a,.inr ⟨b,cap k,d,ii,l,m,?_,r,i,by rw[<-a];exact o⟩⟩;rw[a,i]at g;exact Nat.le_of_mul_le_mul_right g e
variable[DecidableEq κ]
section
variable(H:cN lo w0 w aV ty cap c){r:κ}
include H
theorem cN.row{p:Nat×Nat}{g n:Nat}(i:∀q,ty r=some q->q=p)(d:w.grownBy w' (aV r))(b:w'.ownsRow lo p.1 p.2 (g,n,cp) n J)(j:aV r=g\/w<=g):cN lo w0 w' (up aV r g) ty (up cap r cp) (up c r J):=by
 have f:∀r' b',r'≠r->aV r'=some b'->b'≠g:=by
  intro r' b' h1 h2 e;subst e;obtain h|h:=j
  .exact h1 (H.inj r' r _ h2 h)
  exact aX (H.lt h2) oX
 let⟨l,m⟩:=aQ0.aX1 (ty:=ty r) i b;refine⟨H.below.grown d H.tL (λk o=>(H.lies r k o).1),jm H.tL d.size,λr1 r2 b' h1 h2=>?_,λr' b' a=>?_,λr' mC=>?_⟩
 .by_cases e1:r1=r<;>by_cases e2:r2=r
  .rw[e1,e2]
  .subst e1;rw[ub]at h1;rw[aD e2]at h2
   cases h1;exact aX ii (f r2 _ e2 h2)
  .subst e2;rw[ub]at h2;rw[aD e1]at h1
   cases h2;exact aX ii (f r1 _ e1 h1)
  exact cf5
 .by_cases e1:r'=r
  .subst e1;rw[ub]at a
   cases a;rw[ub,ub];exact⟨l,m⟩
  rw[aD e1]at a;rw[aD e1,aD e1];exact⟨(H.lies _ _ a).1,(H.lies _ _ a).2.other (d.block b' (H.lt a) (λe=>e1 (H.inj r' r _ a e.symm)))⟩
 exact cc7
theorem cN.add{b:Nat}{xs:bi}(f:Below w w w')(g:w<=b)(i:aQ0 w' b (ty r) cp xs):cN lo w0 w' (up aV r b) ty (up cap r cp) (up c r xs):=by
 have d:=H.eC f;refine⟨d.below,d.tL,λr1 r2 b' h1 h2=>?_,λr' b' a=>?_,λr' mC=>?_⟩
 .by_cases e1:r1=r<;>by_cases e2:r2=r
  .rw[e1,e2]
  .subst e1;rw[ub]at h1;rw[aD e2]at h2
   cases h1;exact aX (H.lt h2) oX
  .subst e2;rw[ub]at h2;rw[aD e1]at h1
   cases h2;exact aX (H.lt h1) oX
  exact cf5
 .by_cases e1:r'=r
  .subst e1;rw[ub]at a
   cases a;rw[ub,ub];exact⟨jm H.tL g,i⟩
  rw[aD e1]at a;rw[aD e1,aD e1];exact d.lies _ _ a
 exact cc7
theorem cN.put{b:Nat}{xs:bi}(d:lo<=b)(f:∀k b',aV k=some b'->b'≠b)(g:aQ0 w b (ty r) cp xs):cN lo w0 w (up aV r b) ty (up cap r cp) (up c r xs):=by
 refine⟨H.below,H.tL,λr1 r2 b' h1 h2=>?_,λr' b' a=>?_,λr' mC=>?_⟩
 .by_cases e1:r1=r<;>by_cases e2:r2=r
  .rw[e1,e2]
  .grind [ub,aD]
  .grind [ub,aD]
  exact cf5
 .by_cases e1:r'=r
  .grind [ub]
  rw[aD e1]at a;rw[aD e1,aD e1];exact H.lies _ _ a
 exact cc7
end
theorem cN.set(H:cN lo w0 w aV ty cap c){r:κ}{b j:Nat}{v:Value}(a:aV r=b):cN lo w0 (w.setCell (b,j) v) aV ty cap (up c r ((c r).set j v)):=by
 refine⟨H.below.setCell (H.lies r b a).1 v,cv6,H.inj,λd k f=>?_,λd i=>?_⟩
 .by_cases g:d=r
  .subst g;obtain rfl:k=b:=by rw[a]at f;exact(mx f).symm
   rw[ub];exact⟨(H.lies _ _ a).1,(H.lies _ _ a).2.set j v⟩
  rw[aD g];exact⟨(H.lies _ _ f).1,(H.lies _ _ f).2.other (fQ (λe=>g (H.inj d r _ f (by rw[a,e]))))⟩
 have g:d≠r:=λe=>by rw[e,a]at i;cases i
 rw[aD g];exact H.none_ d i
end
theorem cN.join{κ g:Type}{j:κ->Option Nat}{l:κ->Option (Nat×Nat)}{cap:κ->Nat}{c:κ->bi}{m:g->Option Nat}{n:g->Option (Nat×Nat)}{o:g->Nat}{p:g->bi}(H:cN z u f j l cap c)(a:cN f f w' m n o p):cN z u w' (Sum.elim j m) (Sum.elim l n) (Sum.elim cap o) (Sum.elim c p):=by
 have i:=H.eC a.below;refine⟨i.below,i.tL,λk q b d e=>?_,λk b h=>?_,λk h=>?_⟩
 .cases k<;>cases q<;>simp only[Sum.elim_inl,Sum.elim_inr]at d e
  .rw[H.inj _ _ b d e]
  .exact aX (H.lt d) (by have:=(a.lies _ _ e).1;omega)
  .exact aX (H.lt e) (by have:=(a.lies _ _ d).1;omega)
  rw[a.inj _ _ b d e]
 .cases k
  .exact i.lies _ _ h
  exact⟨jm H.tL (a.lies _ _ h).1,(a.lies _ _ h).2⟩
 cases k
 .exact H.none_ _ h
 exact a.none_ _ h
theorem cN.map{κ g:Type}{d:κ->Option Nat}{e:κ->Option (Nat×Nat)}{cap:κ->Nat}{c:κ->bi}(H:cN z u f d e cap c)(φ:g->κ)(i:∀a b,φ a=φ b->a=b):cN z u f (λk=>d (φ k)) (λk=>e (φ k)) (λk=>cap (φ k)) (λk=>c (φ k)):=
 ⟨H.below,H.tL,λk m b j l=>i _ _ (H.inj _ _ b j l),λk b h=>H.lies _ b h,λk h=>H.none_ _ h⟩
theorem cN.less{κ:Type}{d:κ->Option Nat}{e g:κ->Option (Nat×Nat)}{cap:κ->Nat}{c:κ->bi}(H:cN z u f d e cap c)(h:∀k p,g k=some p->e k=p):cN z u f d g cap c:=
 ⟨H.below,H.tL,H.inj,λk b i=>by let⟨j,a,t,l,m,n,o⟩:=H.lies k b i;exact⟨j,a,t,l,m,n,λp q=>o p (h k p q)⟩,H.none_⟩
theorem tN{P:Program}{o:Oper}{a:Act}{K:Act->World->Prop}{Q:Exit->Act->World->Prop}(s x:Operand)(t:TypeId)(y:o.op=.call {callee:=.builtin .append,args:=#[s,x],argTypes:=#[t,t]}){e:TypeId}{i:TypeInfo}{z:Value}{size bytes:Nat}(A:P.underlying t=some (.slice e))(B:P.info? e=i)(E:i.zero=z)(f:i.size=size)(m:i.bytes=bytes)(p:z.cells.size=size)(q:0<size)(r:bytes<=200)(C:a.eval s=())(v:am)(n c:Nat)(D:a.eval x=(v,n,c))(g:bi)(F:g=n*size)(G:0<n->∃b off:Nat,v=(b,off)/\∀(j:Nat) d,g[j]?=some d->u.cell? (b,off+j)=d)(H:∀d∈g,d.oneCell')(I:n<1000001)(h:∀w cap k,u.grownBy k none->(w=none/\n=0/\cap=0\/w=u/\k.ownsRow u e size (u.heap.size,n,cap) n g)->K (a.put o.dst (.slice w n cap)) k):o.wp P a u K Q:=by
 obtain l|l:=ay6 n
 .subst l;exact be7 s x t y A B C v c D (h none 0 u (World.grownBy.refl _ _) (.inl ⟨ii,ii,ii⟩))
 obtain⟨b,off,rfl,J⟩:=G l;exact EF s x t y A B E f m p q r C b off n c D g F J H l I λcap k L M=>h _ cap k M (.inr ⟨ii,L⟩)
section
variable{P:Program}{ops:Array Oper}{rest:List Oper}{o:Oper}{a:Act}
theorem gu{Q:Exit->Act->World->Prop}(w:o.guard=none)(s x:Operand)(t:TypeId)(y:o.op=.call {callee:=.builtin .append,args:=#[s,x],argTypes:=#[t,t]}){e:TypeId}{i:TypeInfo}{z:Value}{size bytes:Nat}(A:P.underlying t=some (.slice e))(B:P.info? e=i)(C:i.zero=z)(f:i.size=size)(m:i.bytes=bytes)(p:z.cells.size=size)(q:0<size)(r:bytes<=200)(D:a.eval s=())(v:am)(n c:Nat)(E:a.eval x=(v,n,c))(g:bi)(F:g=n*size)(G:0<n->∃b off:Nat,v=(b,off)/\∀(j:Nat) d,g[j]?=some d->u.cell? (b,off+j)=d)(H:∀d∈g,d.oneCell')(I:n<1000001)(h:∀k cap l,u.grownBy l none->(k=none/\n=0/\cap=0\/k=u/\l.ownsRow u e size (u.heap.size,n,cap) n g)->wpList P ops Q rest (a.put o.dst (.slice k n cap)) l):wpList P ops Q (o::rest) a u:=
 ae2 w λ_ J=>tN s x t y A B C f m p q r D v n c E g F G H I λk cap l K L=>J _ _ (h k cap l K L)
theorem aY2{Q:Exit->Act->World->Prop}(y:o.guard=none)(s x:Operand)(t:TypeId)(A:o.op=.call {callee:=.builtin .append,args:=#[s,x],argTypes:=#[t,t]}){e:TypeId}{i:TypeInfo}{b:Value}{size bytes:Nat}(B:P.underlying t=some (.slice e))(C:P.info? e=i)(D:i.zero=b)(d:i.size=size)(k:i.bytes=bytes)(l:b.cells.size=size)(m:0<size)(p:bytes<=200)(E:u.heap=(w2.alloc (us,e)).heap)(r:us.size=size)(F:∀c∈us.toList,c.oneCell')(v:Value)(n:Nat)(G:a.eval s=v)(j:w2.ownsRow z e size v n J)(q:Nat)(H:q=w2)(I:a.eval x=(q,1,1))(K:n<1000001)(f:z<=w2)(h:∀(g:Nat) cap w,w.ownsRow z e size (g,n+1,cap) (n+1) (J++us.toList)->u.grownBy w v.ownBlock->(v.ownBlock=g\/u<=g)->wpList P ops Q rest (a.put o.dst (.slice g (n+1) cap)) w):wpList P ops Q (o::rest) a u:=by
 subst H;exact jw y s x t A B C D d k l m p E r F v n J G j I K f h
end
theorem gW.cells{d:am}{c:List Case}(h:gW u d c)(i:0<c.length):∃b off:Nat,d=(b,off)/\∀(j:Nat) a,(bT fT 0 c)[j]?=some a->u.cell? (b,off+j)=a:=by
 let⟨b,off,e,_⟩:=h.2 0 _ (fv i);refine⟨b,off,e,λj a l=>?_⟩;have m:j<c.length*3:=by have:=um l;rwa [aV9 (f:=fT) (k:=3) (λ_ _=>rfl)]at this
 have g:j / 3<c.length:=oX
 have n:=fq (f:=fT) (k:=3) (λ_ _=>rfl) c 0 (j / 3) (j % 3) _ (fv g) oX;let⟨o,p,q,r,s,t,_⟩:=h.2 (j / 3) _ (fv g);grind [fT]
abbrev CK:=Option bH
def Nl:CK->Option (Nat×Nat)|none=>some (50,1)|some (.ops _)=>some (49,6)|_=>none
def J6(a:CK->Option Nat)(cap:CK->Nat)(i q:Nat)(o:cu):bi:=[o.ai,o.ch,o.n,o.v,nG (a (some (.cases i q))) o.cases (cap (some (.cases i q))),o.dG]
structure fY(lo:Nat)(w0 w:World)(p:be)(j k:Nat)(aV:CK->Option Nat)(cap:CK->Nat)(c:CK->bi):Prop where
 own:cN lo w0 w aV Nl cap c
 out:c none=(List.range j).map λi=>nG (aV (some (.ops i))) (p.getD i []).length (cap (some (.ops i)))
 rows:∀i,i<j->c (some (.ops i))=bT (J6 aV cap i) 0 (p.getD i [])
 row:c (some (.ops j))=bT (J6 aV cap j) 0 ((p.getD j []).take k)
 rU:∀i q o,(i<j\/i=j/\q<k)->(p.getD i [])[q]?=some o->c (some (.cases i q))=bT fT 0 o.cases
 more:∀i,j<i->aV (some (.ops i))=none
 J7:∀i q,¬(i<j\/i=j/\q<k)->aV (some (.cases i q))=none
 YP:k=0->aV (some (.ops j))=none
 less:∀i (q:Nat),(p.getD i [])[q]?=none->aV (some (.cases i q))=none
section
variable{p:be}{j k:Nat}{aV:CK->Option Nat}{cap:CK->Nat}{c:CK->bi}
theorem gX{α:Type}{a b:Nat->α->bi}{l:List α}(h:∀j x,l[j]?=some x->a j x=b j x):bT a 0 l=bT b 0 l:=iI l 0 (λj x d=>by rw[wl];exact h j x d)
theorem fm{α:Type}{l:List α}{x:α}(h:l[cp]?=x):cp<l:=um h
theorem ox{α:Type}{l:List α}{k:Nat}{o:α}(h:l[k]?=o):l.take (k+1)=l.take k++[o]:=by
 grind [List.take_succ_eq_append_getElem]
theorem fY.op(H:fY z u f p j k aV cap c){o:cu}(m:(p.getD j [])[k]?=o){hb:Option Nat}{hc:Nat}{w3:World}(D:Below f f w2)(x:hb=none/\o.cases=[]\/∃b,hb=some b/\f<=b/\aQ0 w2 b none hc (bT fT 0 o.cases)){g:Nat}(J:w2.grownBy w3 (aV (some (.ops j))))(K:aV (some (.ops j))=g\/w2<=g)(a:w3.ownsRow z 49 6 (g,k+1,cp) (k+1) (c (some (.ops j))++[I o.ai,o.ch,o.n,o.v,nG hb o.cases hc,o.dG])):∃y A L,fY z u w3 p j (k+1) y A L/\y (some (.ops j))=g/\A (some (.ops j))=cp/\y none=aV none/\A none=cap none:=by
 have E:aV (some (.cases j k))=none:=H.J7 j k oX
 have M:cN z u w2 (up aV (some (.cases j k)) hb) Nl (up cap (some (.cases j k)) hc) (up c (some (.cases j k)) (bT fT 0 o.cases)):=by
  obtain⟨rfl,x⟩|⟨b,rfl,N,Q⟩:=x
  .have O:=H.own.eC D;have l:up aV (some (.cases j k)) none=aV:=by grind [ub,aD]
   have s:up c (some (.cases j k)) (bT fT 0 o.cases)=c:=by
    funext d;by_cases e:d=some (.cases j k)
    .rw[e,ub,x,O.none_ _ E];rfl
    rw[aD e]
   rw[l,s];exact⟨O.below,O.tL,O.inj,λd b h=>by rw[aD (λe=>by rw[e,E]at h;cases h)];exact O.lies d b h,O.none_⟩
  exact H.own.add D N (Q)
 have F:(up aV (some (.cases j k)) hb) (some (.ops j))=aV (some (.ops j)):=aD sX;have s:∀i q,¬(i=j/\q=k)->up (up aV (some (.cases j k)) hb) (some (.ops j)) g (some (.cases i q))=aV (some (.cases i q)):=λi q h=>by rw[aD sX,aD ck0]
 have G:∀i q,¬(i=j/\q=k)->up (up cap (some (.cases j k)) hc) (some (.ops j)) cp (some (.cases i q))=cap (some (.cases i q)):=λi q h=>by rw[aD sX,aD ck0]
 have d:∀i,i≠j->up (up aV (some (.cases j k)) hb) (some (.ops j)) g (some (.ops i))=aV (some (.ops i)):=λi h=>by rw[aD ck0,aD sX]
 have R:∀i,i≠j->up (up cap (some (.cases j k)) hc) (some (.ops j)) cp (some (.ops i))=cap (some (.ops i)):=λi h=>by rw[aD ck0,aD sX]
 refine⟨_,_,_,⟨M.row (r:=some (.ops j)) (p:=(49,6)) (g:=g) (n:=k+1) (cp:=cp) (by intro q t;simp[Nl]at t;exact t.symm) (by rw[F];exact J) a (by rw[F];exact K),?_,?_,?_,?_,?_,?_,λh=>oX,λi q h=>?_⟩,ub,ub,?_,?_⟩
 .rw[aD sX,aD sX,H.out];apply bI8;intro i l;have:=bI2.1 l;rw[d i oX,R i oX]
 .intro i l;rw[aD ci8,aD sX,H.rows i l];refine gX λq B _=>?_
  unfold J6;rw[s i q oX,G i q oX]
 .rw[ub,ox m,ni,H.row];have C:=fm m;congr 1
  .refine gX λq B t=>?_
   have:=fm t;simp at this;unfold J6;rw[s j q oX,G j q oX]
  rw[show 0+((p.getD j []).take k).length=k by rw[tC];omega];simp[bT,J6,at7];rw[aD sX,ub,aD sX,ub]
 .intro i q B h C;by_cases e:i=j/\q=k
  .let⟨rfl,rfl⟩:=e;rw[m]at C;cases C;rw[aD sX,ub]
  rw[aD sX,aD (by simpa using e)];exact H.rU i q B oX C
 .intro i l;rw[d i oX];exact H.more i l
 .intro i q h;rw[s i q oX];exact H.J7 i q oX
 .by_cases e:i=j/\q=k
  .let⟨rfl,rfl⟩:=e;rw[m]at h;cases h
  rw[s i q e];exact H.less i q h
 .rw[aD sX,aD sX]
 rw[aD sX,aD sX]
theorem fY.next(H:fY z u f p j k aV cap c)(o:(p.getD j []).length=k){a:Nat}(A:f.grownBy w2 (aV none))(B:aV none=cp\/f<=cp)(b:w2.ownsRow z 50 1 (cp,j+1,a) (j+1) (c none++[nG (aV (some (.ops j))) k (cap (some (.ops j)))])):∃s t C,fY z u w2 p (j+1) 0 s t C/\s none=cp/\t none=a:=by
 have d:∀r:bH,up aV none cp (some r)=aV (some r):=λr=>aD sX
 have g:∀r:bH,up cap none a (some r)=cap (some r):=λr=>aD sX
 have l:∀(r:bH) v,up c none v (some r)=c (some r):=λr v=>aD sX
 refine⟨_,_,_,⟨H.own.row (r:=none) (p:=(50,1)) (g:=cp) (n:=j+1) (cp:=a) (by intro q x;simp[Nl]at x;exact x.symm) A b B,?_,?_,?_,?_,?_,?_,?_,λi q h=>by exact H.less i q h⟩,ub,ub⟩
 .rw[ub,H.out,bH2,al1];simp only[d,g,ae8,at5,o]
 .intro i D;rw[l];by_cases e:i=j
  .subst e;rw[H.row,<-o,aj3];refine gX λq m _=>?_
   unfold J6;rw[d,g]
  rw[H.rows i oX];refine gX λq m _=>?_
  unfold J6;rw[d,g]
 .exact H.own.none_ _ (H.more _ oX)
 .intro i q m h y;have:=fm y;refine H.rU i q m ?_ y;by_cases e:i=j
  .subst e;omega
  omega
 .intro i D;exact H.more i oX
 .intro i q h;exact H.J7 i q oX
 intro _;exact H.more _ oX
end
open Go.Proofs.Tryz
def nK(size a most:Int):Bool:=decide (0<=size)&&decide (size<=64)&&decide (0<=a)&&decide (a<=8)&&decide (1<=most)&&decide (most<=16)
theorem Hp(a b c:Int)(w:World):gt 44 #[a,b,c] w (eL (.bool (nK a b c)) λd=>w=d):=by
 go_enter func44,ntmps44;exact ch5
theorem BB(a b c:Int)(w:World):gt 136 #[a,b,c] w (eL (.bool (nK a b c)) λd=>w=d):=by
 go_enter func136,ntmps136;exact ch5
theorem av9{P:Program}(t e:TypeId)(i:TypeInfo){z:Value}(d:P.underlying t=some (.slice e))(f:P.info? e=i)(g:i.zero=z)(a b:IntKind)(n c:Nat)(l:n<=c)(m:i.bytes*c<=281474976710656)(j:c<=9223372036854775807)(w:World):(Instr.makeSlice t (.int a (n:Int)) (.int b (c:Int))).run P w=.ok (w.heap.size,n,c) (w.alloc ((madeCells z.cells (c*i.size)),e)):=by
 have k:=run_make (P:=P) w t e i z d f g a b n c oX oX oX oX;exact k
theorem Sd:(prog.info? 154).map (λi=>(i.zero,i.size,i.bytes))=some (some (.agg #[I 0,B false]),2,16):=kX
theorem Se:(prog.info? 169).map (λi=>(i.zero,i.size,i.bytes))=some (some (.agg #[I 0,I 0,I 0]),3,24):=kX
theorem Sf:(prog.info? 163).map (λi=>(i.zero,i.size,i.bytes))=some (some (.agg #[I 0,I 0,I 0]),3,24):=kX
theorem NS:(prog.info? 28).map (λi=>(i.zero,i.size,i.bytes))=some (some (.slice none 0 0),1,24):=kX
theorem YC:(prog.info? 4).map (λi=>(i.zero,i.size,i.bytes))=(some (B false),1,1):=kX
theorem yx(z:dl)(k:Nat)(hk:z.size=k)(a:0<k):∀n,(madeCells z (n*k)).toList=bT (λ(_:Nat) (_:Unit)=>z.toList) 0 (List.replicate n ()):=by
 intro n;apply ad9;intro j;have:(bT (λ(_:Nat) (_:Unit)=>z.toList) 0 (List.replicate n ())).length=n*k:=by rw[aV9 (k:=k) cn9];simp
 by_cases b:j<n*k
 .have:=Nat.div_add_mod j k;have:=fq (f:=λ(_:Nat) (_:Unit)=>z.toList) (k:=k) cn9 (List.replicate n ()) 0 (j / k) (j % k) () (by rw[uA,aF (Nat.div_lt_of_lt_mul (by rw[Nat.mul_comm];exact b))]) (Nat.mod_lt j a);grind [madeCells]
 grind [size_madeCells]
theorem vL{α:Type}(f:Nat->α->bi)(a:α)(l:bi)(h:∀i,f i a=l):∀n i,bT (λ(_:Nat) (_:Unit)=>l) i (List.replicate n ())=bT f i (List.replicate n a)
 |0,i=>rfl
 |n+1,i=>by simp[List.replicate_succ,bT,h,vL f a l h n (i+1)]
theorem gz{α:Type}{f:Nat->α->bi}{a:α}{z:dl}(h:∀i,f i a=z.toList)(b:0<z.size)(n:Nat):(madeCells z (n*z.size)).toList=bT f 0 (List.replicate n a):=by
 rw[yx z z.size ii b,vL f a z.toList h]
theorem Hq{B n:Nat}{xs:bi}(h:u.ownsRow B z 1 (cp,n,n) n xs):u.heap[cp]?=some (.cells xs.toArray z (0,0)):=by
 exact cb8
theorem xO:(prog.info? 240).map (λi=>(i.zero,i.size,i.bytes))=(some (U 0),1,2):=kX
theorem rO{α:Type}(f:α->Value):∀(l:List α) (i:Nat),bT (λ_ x=>[f x]) i l=l.map f
 | [],_=>rfl
 |x::l,i=>by simp[bT,rO f l]
theorem Az(n:Nat)(o:0<n)(p:n<=64)(w:World):gt 80 #[I n] w λe d=>∃b g c,e=Value.pointer (some ⟨b,0,none⟩)/\d.heap[b]?=some (.cells #[(g,n,n)] 157 (0,0))/\d.heap[g]?=some (.cells c 154 (0,0))/\c.toList=bT ry 0 (List.replicate n (0,false))/\w<=b/\w.heap.size<=g/\b≠g/\Below w w d:=by
 let⟨i,j,k,l,gG⟩:=AC Sd;have m:=λW=>av9 (P:=prog) 155 154 i underlying155 j k .i64 .i64 n n cG cl1 oX W
 rw[l]at m;go_enter func80,ntmps80;go_wp2;go_ret;have s1:(w.alloc (.cells (madeCells #[I 0,B false] (n*2)) 154)).heap.size=w.heap.size+1:=sX
 refine⟨_,w.heap.size,_,ii,cr5,(gf _ _ _ ck7).trans (dP),gz (f:=ry) (a:=((0:Int),false)) (z:=#[I 0,B false]) (λ_=>rfl) dX n,oX,oX,oX,((fp).alloc cG _).alloc ck7 _⟩
theorem Cz(l:ce)(n:Nat)(o:n=l)(a:am)(c:Nat)(w:World)(h:Rd .u16 w a l)(H:n<=300):gt 82 #[(a,n,c)] w λe j=>∃b g:Nat,e=b/\j.heap[b]?=some (.cells #[(g,n,n),I 0] 152 (0,0))/\j.heap[g]?=some (.cells (l.map U).toArray 240 (0,0))/\w<=b/\w<=g/\b≠g/\Below w w j:=by
 let⟨y,z,A,B,gG⟩:=AC xO;have p:=ag o;clear o;go_enter func82,ntmps82;go_wp2_with (at_make;go_loud (refine bH5 _ ii _ _ 25 rfl w 240 y (U 0) 1 underlying25 z A B _ _ _ _ n ii ii ii ii cl1 cj7 cG ?_));intro C d q;have r:Below w w C:=(fp).grown q cG cm0;rw[ay0]at d;have s:=Hq d;have D:=ag s;let⟨i,t⟩:=dC (l.map U);have u:=ag t;have v:i.length=n:=by rw[u.out,ko,p.out]
 have f:=ag v;clear d q t s v;go_wp2_with (with_reducible refine wpList_copy_splice ii (.tmp 7) (.tmp 8) 25 25 rfl 240 underlying25 kX _ _ _ _ _ _ ii ii w 0 (List.replicate n (U 0)) 240 D.out i ?c1 ?c2 ?c3 ?c4 w w r cG ?_)
 case c1=>simp[f.out]
 case c2=>
  intro m;rw[f.out,p.out]at m;obtain⟨b,off,rfl,x⟩:=((ag h).out.below r cG).2 m;grind [Hid.out,Addr.add_lit]
 case c3=>simp[f.out]
 case c4=>
  grind [Hid.out,ints_oneCell]
 intro J E x;go_wp2;go_ret;have m:=E.out;have F:splice (List.replicate n (U 0)) 0 i=i:=by simp[splice,f.out]
 rw[F]at m;have G:=(dh m).1;refine⟨_,w.heap.size,ii,dP,?_,oX,rx _,oX,x.alloc x.size _⟩;rw[gf _ _ _ G,m,u.out]
theorem Hr(a b c:Int)(h:nK a b c=false)(w:World):gt 78 #[a,b,c] w (eL (.tuple #[.pointer none,I 1]) λd=>w=d):=by
 have f:=ag (λg=>BB a b c g);go_enter func78,ntmps78;go_wp2_with (refine(f _).mono ?_;rintro e i ⟨rfl,rfl⟩);go_ret2;exact⟨ii,ii⟩
theorem CA(N n most:Nat)(G:n<=8)(H:N<=64)(m:nK N n most)(w:World):gt 78 #[I N,I n,I most] w λe i=>∃b g q d k,e=Value.tuple #[.pointer (some ⟨b,0,none⟩),I 0]/\i.heap[b]?=some (.cells #[I N,I most,(g,n,n),(),I 0,(q,N,N)] 150 (0,0))/\i.heap[g]?=some (.cells d 28 (0,0))/\d.toList=List.replicate n (.slice none 0 0)/\i.heap[q]?=some (.cells k 4 (0,0))/\k.toList=(List.replicate N false).map B/\w<=b/\w.heap.size<=g/\w.heap.size<=q/\b≠g/\b≠q/\g≠q/\Below w w i:=by
 let⟨p,r,s,t,gG⟩:=AC NS;let⟨u,v,y,A,C⟩:=AC YC;have D:=λW=>av9 (P:=prog) 38 28 p underlying38 r s .i64 .i64 n n cG cl1 oX W
 have E:=λW=>av9 (P:=prog) 88 4 u underlying88 v y .i64 .i64 N N cG (by rw[C];omega) oX W
 rw[t]at D;rw[A]at E;have l:=ag (λF=>BB N n most F);rw[m]at l;go_enter func78,ntmps78;go_wp2_with (go_at_call 136;refine(l _).mono ?_;rintro e J ⟨rfl,rfl⟩);go_region;all_goals go_wp2
 all_goals go_ret2
 .generalize hx:madeCells #[()] n=X;generalize j:madeCells #[B false] N=Y;have s1:(w.alloc (.cells X 28)).heap.size=w.heap.size+1:=by simp
  have s2:((w.alloc (.cells X 28)).alloc (.cells Y 4)).heap.size=w.heap.size+1+1:=sX
  have c:=λo=>(((ae5 w w).alloc cG (.cells X 28)).alloc ck7 (.cells Y 4)).alloc cn0 o
  refine⟨_,_,_,X,Y,ii,by rw[<-s2];exact dP,(gf _ _ _ cn0).trans ((gf _ _ _ ck7).trans (dP)),?_,(gf _ _ _ cn0).trans cr5,?_,oX,oX,oX,oX,oX,oX,(c _).drew⟩
  .exact cg8
  rw[<-j];have:=bP3;rw[rO B]at this;simpa using this
 generalize hx:madeCells #[()] n=X;generalize j:madeCells #[B false] N=Y;have s1:(w.alloc (.cells Y 4)).heap.size=w.heap.size+1:=sX
 have s2:((w.alloc (.cells Y 4)).alloc (.cells X 28)).heap.size=w.heap.size+1+1:=sX
 have c:=λo=>(((ae5 w w).alloc cG (.cells Y 4)).alloc ck7 (.cells X 28)).alloc cn0 o
 refine⟨_,_,_,X,Y,ii,by rw[<-s2];exact dP,(gf _ _ _ cn0).trans cr5,?_,(gf _ _ _ cn0).trans ((gf _ _ _ ck7).trans (dP)),?_,oX,oX,oX,oX,oX,oX,(c _).drew⟩
 .exact cg8
 rw[<-j];have:=bP3;rw[rO B]at this;simpa using this
def mQ(a:dl)(k N j:Nat)(b:bi):Prop:=a.size=N*k/\∀i q,i<j->q<k->a[i*k+q]?=b[q]?
theorem mQ.all{α:Type}{f:Nat->α->bi}{a:α}(h:mQ us z cp cp J)(b:J=z)(k:0<z)(l:∀i,f i a=J):us.toList=bT f 0 (List.replicate cp a):=by
 rw[<-vL f a J l];apply ad9;intro j;by_cases m:j<cp*z
 .have c:=Nat.div_add_mod j z;have d:=Nat.mod_lt j k;have e:j / z<cp:=Nat.div_lt_of_lt_mul (by rw[Nat.mul_comm];exact m);have g:=fq (f:=λ(_:Nat) (_:Unit)=>J) (k:=z) (λ_ _=>b) (List.replicate cp ()) 0 (j / z) (j % z) () (by rw[uA,aF e]) d;rw[show j / z*z+j % z=j by rw[Nat.mul_comm];exact c]at g;rw[g,<-h.2 (j / z) (j % z) e d,show j / z*z+j % z=j by rw[Nat.mul_comm];exact c,bH7]
 rw[rq (by rw[Array.length_toList,h.1];omega),rq (by rw[aV9 (k:=z) (λ_ _=>b)];simp;omega)]
theorem yz{wr:World}{N:Nat}{T:TypeId}{a b c:Value}(f2:wr.heap[z]?=some (.cells us T (0,0)))(d:mQ us 3 N cp [a,b,c])(k:cp<N):∃e,(((wr.setCell (z,cp*3) a).setCell (z,cp*3+1) b).setCell (z,cp*3+2) c).heap[z]?=some (.cells e T (0,0))/\mQ e 3 N (cp+1) [a,b,c]:=by
 have g:=d.1;refine⟨_,ms _ z (cp*3+2) _ _ c (ms _ z (cp*3+1) _ _ b (ms wr z (cp*3) _ _ a f2)),by simpa using g,λi q l f=>?_⟩;simp[Array.getElem?_setIfInBounds,Array.size_setIfInBounds];by_cases j:i=cp
 .subst j;match q,f with
  |0,_=>simp;omega
  |1,_=>simp;omega
  |2,_=>simp;omega
 rw[aE oX,aE oX,aE oX];exact d.2 i q oX f
theorem CC{wr:World}{b:Nat}{a c d:Value}(h:b≠z):(((wr.setCell (z,cp*3) a).setCell (z,cp*3+1) c).setCell (z,cp*3+2) d).heap[b]?=wr.heap[b]?:=by
 grind [Go.RowKit.Below.heap_setCell]
theorem AD(N:Nat)(hN:N<=64)(w:World):gt 79 #[I N,I 16] w λe y=>∃b g q a t,e=Value.tuple #[.pointer (some ⟨b,0,none⟩),I 0]/\y.heap[b]?=some (.cells #[(g,N,N),(q,16,16)] 167 (0,0))/\y.heap[g]?=some (.cells a 169 (0,0))/\a.toList=bT oD 0 (List.replicate N {})/\y.heap[q]?=some (.cells t 163 (0,0))/\t.toList=bT rG 0 (List.replicate 16 {})/\w<=b/\w.heap.size<=g/\w.heap.size<=q/\b≠g/\b≠q/\g≠q/\Below w w y:=by
 let⟨i0,L,M,O,gG⟩:=AC Se;let⟨Q,R,S,T,U⟩:=AC Sf;have Z:=λW=>av9 (P:=prog) 164 169 i0 underlying164 L M .i64 .i64 N N cG cl1 oX W
 have Si:∀W:World,(Instr.makeSlice 165 (I 16) (I 16)).run prog W=.ok (.slice (some ⟨W.heap.size,0,none⟩) 16 16) (W.alloc (.cells (madeCells (Value.agg #[I 0,I 0,I 0]).cells (16*Q.size)) 163)):=λW=>av9 (P:=prog) 165 163 Q underlying165 R S .i64 .i64 16 16 cG (by rw[U];omega) oX W
 rw[O]at Z;rw[T]at Si;clear L M O gG R S T U;go_enter func79,ntmps79;go_wp2;go_region;generalize C:madeCells #[I 0,I 0,I 0] (N*3)=X;generalize D:madeCells #[I 0,I 0,I 0] 48=Y;have s1:(w.alloc (.cells X 169)).heap.size=w.heap.size+1:=sX
 have s2:((w.alloc (.cells X 169)).alloc (.cells Y 163)).heap.size=w.heap.size+1+1:=sX
 have F:∃b g q:Nat,b=w.heap.size+1+1/\g=w.heap.size/\q=w.heap.size+1:=⟨_,_,_,ii,ii,ii⟩;let⟨b,g,q,n,o,p⟩:=F;rw[<-n,<-p,<-o];let⟨c,f⟩:=dC ((((w.alloc (.cells X 169)).alloc (.cells Y 163)).alloc (.cells #[(g,N,N),.slice (some ⟨q,0,none⟩) 16 16] 167)).drew);have r:Below w w c:=by rw[f];exact((((ae5 w w).alloc cG (.cells X 169)).alloc ck7 (.cells Y 163)).alloc cn0 _).drew
 have z:c.heap[b]?=some (.cells #[(g,N,N),.slice (some ⟨q,0,none⟩) 16 16] 167 (0,0)):=by rw[f,n,<-s2];exact dP
 have E:c.heap[g]?=some (.cells X 169 (0,0)):=by rw[f,o];exact(gf _ _ _ cn0).trans ((gf _ _ _ ck7).trans (dP))
 have G:c.heap[q]?=some (.cells Y 163 (0,0)):=by rw[f,p];exact(gf _ _ _ cn0).trans cr5
 have d:w<=b/\w<=g/\w<=q/\b≠g/\b≠q/\g≠q:=oX
 rw[<-f];clear f s1 s2 n o p;rotate_left;generalize C:madeCells #[I 0,I 0,I 0] (N*3)=X;generalize D:madeCells #[I 0,I 0,I 0] 48=Y;have s1:(w.alloc (.cells Y 163)).heap.size=w.heap.size+1:=sX
 have s2:((w.alloc (.cells Y 163)).alloc (.cells X 169)).heap.size=w.heap.size+1+1:=sX
 have F:∃b g q:Nat,b=w.heap.size+1+1/\g=w.heap.size+1/\q=w.heap.size:=⟨_,_,_,ii,ii,ii⟩;let⟨b,g,q,n,o,p⟩:=F;rw[<-n,<-o,<-p];let⟨c,f⟩:=dC ((((w.alloc (.cells Y 163)).alloc (.cells X 169)).alloc (.cells #[(g,N,N),.slice (some ⟨q,0,none⟩) 16 16] 167)).drew);have r:Below w w c:=by rw[f];exact((((ae5 w w).alloc cG (.cells Y 163)).alloc ck7 (.cells X 169)).alloc cn0 _).drew
 have z:c.heap[b]?=some (.cells #[(g,N,N),.slice (some ⟨q,0,none⟩) 16 16] 167 (0,0)):=by rw[f,n,<-s2];exact dP
 have G:c.heap[q]?=some (.cells Y 163 (0,0)):=by rw[f,p];exact(gf _ _ _ cn0).trans ((gf _ _ _ ck7).trans (dP))
 have E:c.heap[g]?=some (.cells X 169 (0,0)):=by rw[f,o];exact(gf _ _ _ cn0).trans cr5
 have d:w<=b/\w<=g/\w<=q/\b≠g/\b≠q/\g≠q:=oX
 rw[<-f];clear f s1 s2 n o p
 all_goals
  have hX:X.size=N*3:=by rw[<-C];exact aw9 _ _
  have hY:Y.size=16*3:=by rw[<-D];exact aw9 _ _
  have hR:Hid (c.heap[b]?=some (.cells #[(g,N,N),.slice (some ⟨q,0,none⟩) 16 16] 167 (0,0))/\(∃a,c.heap[g]?=some (.cells a 169 (0,0))/\mQ a 3 N 0 [I (-1),I (-1),I (-1)])/\c.heap[q]?=some (.cells Y 163 (0,0))/\Below w w c):=
   ⟨z,⟨X,E,hX,λi q h=>aX h oX⟩,G,r⟩
  let⟨db,A,B,u,v,s⟩:=d;have H:c.cell? ⟨b,0,none⟩=some (.slice (some ⟨g,0,none⟩) N N):=by rw[cr z];rfl
  have HY:=ag hY;clear Z Si C D z E G r hX hY;go_wp2;go_loopw [34] (λi wr=>∃j:Nat,i=.int .i64 j/\j<=N/\Hid (wr.heap[b]?=some (.cells #[.slice (some ⟨g,0,none⟩) N N,.slice (some ⟨q,0,none⟩) 16 16] 167 (0,0))/\(∃a,wr.heap[g]?=some (.cells a 169 (0,0))/\mQ a 3 N j [I (-1),I (-1),I (-1)])/\wr.heap[q]?=some (.cells Y 163 (0,0))/\Below w.heap.size w wr)) (λi _=>N-(intOf i).toNat)
  case atStart=>exact⟨0,ii,oX,hR⟩
  clear hR H;obtain⟨j,rfl,hj,l⟩:=hrel;by_cases J:j<N
  .let⟨f1,⟨a,f2,hA⟩,f3,m⟩:=l.out;have H:wr.cell? ⟨b,0,none⟩=some (.slice (some ⟨g,0,none⟩) N N):=by rw[cr f1];rfl
   have t0:wr.cell? (g,j*3)=some (a[j*3]' cm1):=by rw[cr f2];exact xL _
   have t1:wr.cell? (g,j*3+1)=some (a[j*3+1]' cm1):=by rw[cr f2];exact xL _
   have t2:wr.cell? (g,j*3+2)=some (a[j*3+2]' cm1):=by rw[cr f2];exact xL _
   have u0:=iM wr g (j*3) f2;have u1:=iM wr g (j*3+1) f2;have u2:=iM wr g (j*3+2) f2;generalize a[j*3]' cm1=v0 at t0;generalize a[j*3+1]' cm1=v1 at t1;generalize a[j*3+2]' cm1=v2 at t2;clear f1 f2 hA f3 m;go_wp2;refine⟨⟨j+1,ii,oX,?_⟩,cj2⟩;let⟨f1,⟨a,f2,hA⟩,f3,m⟩:=l.out;exact⟨(CC u).trans f1,yz f2 hA J,(CC (dE s)).trans f3,((m.setCell A _).setCell A _).setCell A _⟩
  obtain rfl:j=N:=oX
  have c1:wr.cell? (b,1)=some (.slice (some ⟨q,0,none⟩) 16 16):=by rw[cr l.out.1];rfl
  have x:Hid (wr.heap[b]?=some (.cells #[(g,j,j),.slice (some ⟨q,0,none⟩) 16 16] 167 (0,0))/\(∃a,wr.heap[g]?=some (.cells a 169 (0,0))/\mQ a 3 j j [I (-1),I (-1),I (-1)])/\(∃a,wr.heap[q]?=some (.cells a 163 (0,0))/\mQ a 3 16 0 [I (-1),I (-1),I 0])/\Below w w wr):=
   ⟨l.out.1,l.out.2.1,⟨Y,l.out.2.2.1,HY,λi q h=>aX h oX⟩,l.out.2.2.2⟩
  clear l HY;go_wp2;go_loopw [50] (λi wr=>∃k:Nat,i=.int .i64 k/\k<=16/\Hid (wr.heap[b]?=some (.cells #[(g,j,j),.slice (some ⟨q,0,none⟩) 16 16] 167 (0,0))/\(∃a,wr.heap[g]?=some (.cells a 169 (0,0))/\mQ a 3 j j [I (-1),I (-1),I (-1)])/\(∃a,wr.heap[q]?=some (.cells a 163 (0,0))/\mQ a 3 16 k [I (-1),I (-1),I 0])/\Below w w wr)) (λi _=>16-(intOf i).toNat)
  case atStart=>exact⟨0,ii,oX,x⟩
  clear x c1;obtain⟨k,rfl,hk,l⟩:=hrel;by_cases J:k<16
  .let⟨f1,f2,⟨a,f3,hA⟩,m⟩:=l.out;have H:wr.cell? (b,1)=some (.slice (some ⟨q,0,none⟩) 16 16):=by rw[cr f1];rfl
   have t0:wr.cell? ⟨q,k*3,none⟩=some (a[k*3]' cm1):=by rw[cr f3];exact xL _
   have t1:wr.cell? ⟨q,k*3+1,none⟩=some (a[k*3+1]' cm1):=by rw[cr f3];exact xL _
   have t2:wr.cell? ⟨q,k*3+2,none⟩=some (a[k*3+2]' cm1):=by rw[cr f3];exact xL _
   have u0:=iM wr q (k*3) f3;have u1:=iM wr q (k*3+1) f3;have u2:=iM wr q (k*3+2) f3;generalize a[k*3]' cm1=v0 at t0;generalize a[k*3+1]' cm1=v1 at t1;generalize a[k*3+2]' cm1=v2 at t2;clear f1 f2 hA f3 m;go_wp2;refine⟨⟨k+1,ii,oX,?_⟩,cj2⟩;let⟨f1,⟨t,f2,K⟩,⟨a,f3,hA⟩,m⟩:=l.out;exact⟨(CC v).trans f1,⟨t,(CC s).trans f2,K⟩,yz f3 hA J,((m.setCell B _).setCell B _).setCell B _⟩
  obtain rfl:k=16:=oX
  go_wp2;go_ret2;let⟨f1,⟨t,f2,K⟩,⟨a,f3,hA⟩,m⟩:=l.out;exact⟨b,g,q,t,a,ii,f1,f2,K.all ii dX (λ_=>rfl),f3,hA.all ii dX (λ_=>rfl),db,A,B,u,v,s,m⟩
theorem yA(w:World):gt 81 #[I 0] w λe c=>∃b g a,e=Value.pointer (some ⟨b,0,none⟩)/\c.heap[b]?=some (.cells #[(g,0,0)] 161 (0,0))/\c.heap[g]?=some (.cells a 3 (0,0))/\a.size=0/\w<=b/\w.heap.size<=g/\b≠g/\Below w w c:=by
 let⟨f,k,l,p,gG⟩:=AC lC;have:∀W:World,(Instr.makeSlice 28 (I 0) (I 0)).run prog W=.ok (.slice (some ⟨W.heap.size,0,none⟩) 0 0) (W.alloc (.cells (madeCells (I 0).cells (0*f.size)) 3)):=λW=>av9 (P:=prog) 28 3 f underlying28 k l .i64 .i64 0 0 cG cl1 oX W
 go_enter func81,ntmps81;go_wp2;have s1:(w.alloc (.cells (madeCells #[I 0] 0) 3)).heap.size=w.heap.size+1:=sX
 have d:Hid (∀o,Below w w ((w.alloc (.cells (madeCells #[I 0] 0) 3)).alloc o)):=λo=>(((ae5 w w).alloc cG (.cells (madeCells #[I 0] 0) 3)).alloc ck7 o)
 go_loopw [16] (λi wr=>i=.int .i64 0/\Hid (wr.heap=((w.alloc (Obj.cells (madeCells #[I 0] 0) 3)).alloc (Obj.cells #[(w.heap.size,0,0)] 161)).heap/\Below w w wr)) (λi _=>0)
 case atStart=>exact⟨ii,ii,d.out _⟩
 let⟨rfl,m⟩:=hrel;go_wp2;go_ret;let⟨j,n⟩:=m.out;have s1:=(ag s1).out;refine⟨_,w.heap.size,_,ii,by rw[j,<-s1];exact dP,by rw[j];exact(gf _ _ _ ck7).trans (dP),aw9 _ _,oX,oX,oX,n⟩
theorem BO{B:Nat}{v:Value}(h:u.ownsRow B z 1 v cp J)(a:v≠ ()):∃g cap:Nat,v=(g,cp,cap)/\B<=g/\g<u/\cp<=cap:=by
 obtain⟨rfl,f⟩|⟨g,cap,b,rfl,c,d,e,_⟩:=h.2
 .exact aX ii a
 exact⟨g,cap,ii,c,(dh d).1,e⟩
theorem E3{B n:Nat}{v:Value}(h:u.ownsRow B cp 1 v n J)(d:z<=B):u.ownsRow z cp 1 v n J:=by
 refine⟨h.1,?_⟩;obtain b|⟨g,cap,a,c,e,r⟩:=h.2
 .exact .inl b
 exact .inr ⟨g,cap,a,c,oX,r⟩
def oK(out:ce)(x:Int):ce:=if x<=0 then out else if 0<out.length/\out.getD (out-1) 0=x then out else out++[x]
def fb(s:ce)(k:Nat):ce:=(s.take k).foldl oK []
def rZ(l:ce):ce:=fb (yH l) l
theorem CR(s:ce):fb s 0=[]:=by simp[fb]
theorem CT(s:ce)(k:Nat)(h:k<s):fb s (k+1)=oK (fb s k) (s.getD k 0):=by
 unfold fb;rw[List.take_succ_eq_append_getElem h,List.foldl_append];simp[List.getD,h]
structure LK(B B1:Nat)(s:ce)(V0:Value)(w1:World)(k m:Nat)(v:Value)(wr:World):Prop where
 val:(m=0/\v=V0)\/(0<m/\wr.ownsRow B1 3 1 v m ((fb s k).map (Value.int .i64)))
 len:m=(fb s k).length
 below:Below B1 w1 wr
theorem vW(p:ce)(n:Nat)(Q:n=p)(a:am)(c:Nat)(h:Rd .i64 f a p)(hs:n<=1000):gt 199 #[(a,n,c)] f (vH f (rZ p)):=by
 let⟨R,S,T,U,X⟩:=AC lC;have w:=ag Q;clear Q;go_enter func199,ntmps199;go_wp2_with fail
 refine(bt0 p n w.out a c _ h hs).mono ?_;rintro e d ⟨v,rfl,z,hb⟩;obtain⟨ao,cap,rfl,Y⟩:=z.rd (by rw[lI,<-w.out];omega);rw[lI,<-w.out];let⟨s,D⟩:=dC (yH p);rw[<-D]at Y;have mj:s.length=n:=by rw[D,lI,<-w.out]
 have E:=ag D;clear D;have A:=ag mj;have HR:=ag Y;have F:=ag hb;have H0:Hid (∀W:World,Below d d W->W.ownsRow f 3 1 () 0 []):=λW _=>ai9 _ _ _ _
 have HL:Hid (LK f d s () d 0 0 () d):=⟨.inl ⟨ii,ii⟩,by rw[CR];rfl,.refl _ _⟩;go_wp2;go_loopw [3,5,9] (λv _ i wr=>∃(r:Value) (k m:Nat),r=v/\k<=n/\m<=k/\i=.int .i64 k/\Hid (LK f d s () d k m r wr)) (λ_ _ i _=>n-(intOf i).toNat)
 case atStart=>exact⟨_,0,0,ii,wn _,rx _,ii,HL⟩
 clear HL;obtain⟨r,k,m,rfl,hk,sN,rfl,HL⟩:=hrel;by_cases Z:k<n
 .obtain⟨b,off,rfl,hc⟩:=(HR.out.below HL.out.below cG).at k (by rw[A.out];exact Z);let⟨x,hx⟩:=named (s.getD k 0);rw[<-hx.out]at hc;have G:=CT s k (by rw[A.out];exact Z);rw[<-hx.out]at G;have j:=ag G;clear G;by_cases Hm:x<=0
  .have VR:Hid (LK f d s () d (k+1) m r wr):=by
    have e:fb s (k+1)=fb s k:=(by rw[j.out];unfold oK;rw[aF Hm]);exact ch0
   exact cf8
  by_cases H:m=0
  .subst H
   have l:r=():=by
    obtain h|h:=HL.out.val
    .exact h.2
    omega
   have I:fb s k=[]:=xn HL.out.len.symm;subst l;have o:=HL.out.below.size;go_wp2_with (at_builtin;go_loud (refine sZ ii (.tmp 30) (.tmp 32) 28 rfl 3 R (.int .i64 0) 8 underlying28 S T U X ii oX _ ii ⟨wr.heap.size,0,none⟩ 1 (.int .i64 x) ii (by simp[go_sem]) ii ?_));intro J K t B;have VR:Hid (LK f d s () d (k+1) 1 (.slice (some ⟨wr.heap.size+1,0,none⟩) 1 J) K):=(by have e:fb s (k+1)=[x]:=(by rw[j.out,I];unfold oK;rw[aE oX,aE sX];rfl);refine⟨.inr ⟨oX,?_⟩,by rw[e];rfl,(HL.out.below.alloc o _).grown B ci8 (by intro q L;cases L)⟩;rw[e];exact E3 (by simpa using t) oX);clear t B;go_wp2;go_roundw
   case rel=>exact⟨_,k+1,1,ii,oX,oX,cj8,VR⟩
   simp[intOf];omega
  have C:wr.ownsRow d 3 1 r m ((fb s k).map (Value.int .i64)):=by
   obtain h|h:=HL.out.val
   .omega
   exact h.2
  obtain⟨g,J,rfl,a0,EU,Oi⟩:=BO C (by rintro rfl;have:=C.2;simp at this;omega);have J8:=HL.out.len;have cy:=C.cellAt (m-1) oX;have M:wr.cell? (g,m-1)=some (.int .i64 ((fb s k).getD (m-1) 0)):=by rw[cy];simp[List.getD,show m-1<(fb s k).length by omega]
  let⟨y,N⟩:=named ((fb s k).getD (m-1) 0);rw[<-N.out]at M;have l:=ag J8;have HO:=ag C;have a1:(0:Int)<(m:Int):=oX
  have ny:((m:Int)==0)=false:=ci8
  have p2:((m:Int)-1).toNat=m-1:=oX
  have o:=HL.out.below.size;clear cy J8 C;by_cases O:y=x
  .subst O
   have VR:Hid (LK f d s () d (k+1) m (g,m,J) wr):=by
    have e:fb s (k+1)=fb s k:=(by rw[j.out];unfold oK;rw[aE oX,aF ⟨by rw[<-l.out];omega,by rw[<-l.out,<-N.out]⟩]);exact ch0
   exact cf8
  have a2:(y !=x)=true:=by simpa using O
  go_wp2_with (at_builtin;go_loud (refine wpList_append_own _ ii (.tmp 30) (.tmp 32) 28 rfl d 3 R (.int .i64 0) 1 8 underlying28 S T U X ii dX _ _ _ ii (HO.out.alloc _) ⟨wr.heap.size,0,none⟩ 1 1 [.int .i64 x] ii ii (cell_one_new _ _ _) cq2 cj7 oX ci8 ?_));intro v' K t B E4;have VR:Hid (LK f d s () d (k+1) (m+1) v' K):=by have e:fb s (k+1)=fb s k++[x]:=(by rw[j.out];unfold oK;rw[aE oX,aE (by rw[<-l.out,<-N.out];exact λh=>O h.2)]);refine⟨.inr ⟨oX,?_⟩,by rw[e,aU7,<-l.out];rfl,(HL.out.below.alloc o _).grown B ci8 (by intro q L;simp[Value.ownBlock]at L;omega)⟩;rw[e];simpa using t
  obtain⟨g',hU,rfl,-,-,-⟩:=BO t (λe=>by simp[e]at E4);clear t B E4;go_wp2;go_roundw
  case rel=>exact⟨_,k+1,m+1,ii,oX,oX,cj8,VR⟩
  simp[intOf];omega
 obtain rfl:k=n:=oX
 go_wp2;go_ret;refine⟨_,ii,?_,F.out.trans (HL.out.below.mono F.out.size)⟩;have e:rZ p=fb s k:=by unfold rZ;rw[<-E.out,<-w.out]
 unfold yv;rw[e,<-HL.out.len];obtain h|h:=HL.out.val
 .have I:fb s k=[]:=xn (by rw[<-HL.out.len];exact h.1);obtain rfl:=h.1;rw[I,h.2];exact H0 _ HL.out.below
 exact E3 h.2 F.out.size
def fI(l:ce)(d:Int):Nat->ce×Int
 |0=>([],d)
 |k+1=>((fI l d k).1++[(gw l (fI l d k).2 ((k:Int)+1)).1],(gw l (fI l d k).2 ((k:Int)+1)).2)
theorem ke(l:ce)(d:Int)(k:Nat):(fI l d k).1.length=k:=by
 induction k with
 |zero=>rfl
 |succ k ih=>simp[fI,ih]
theorem bb6(l:ce):∀(n i:Nat) (d:Int),gy l d i (n+1)=((gy l d i n).1++[(gw l (gy l d i n).2 ((i:Int)+n+1)).1],(gw l (gy l d i n).2 ((i:Int)+n+1)).2)
 |0,i,d=>by simp[gy]
 |n+1,i,d=>by rw[gy,bb6 l n (i+1)];grind [gy]
theorem I6(l:ce)(d:Int)(n:Nat):gy l d 0 n=fI l d n:=by
 induction n with
 |zero=>rfl
 |succ k ih=>
  grind [bb6,fI]
theorem Mn(l:ce)(i j:Nat):ND l i j=iO l i j:=rfl
theorem PH(a:ce)(k:Nat):kB a k=rz a k:=by
 induction k with
 |zero=>rfl
 |succ k ih=>simp[kB,rz,ih,Mn]
theorem Mv(x:Int)(l:ce):(ji x l).Perm (x::l):=by
 induction l with
 |nil=>exact .refl _
 |cons y l ih=>
  grind [ji]
theorem zr(x:Int)(l:ce)(h:l.Pairwise (· <=·)):(ji x l).Pairwise (· <=·):=by
 induction l with
 |nil=>simp[ji]
 |cons y l ih=>
  grind [ji,List.pairwise_cons,Mv]
theorem bf1(l:ce):(l.foldr ji []).Perm l:=by
 induction l with
 |nil=>exact .refl _
 |cons x l ih=>exact(Mv x _).trans (ih.cons x)
theorem Nr(l:ce):(l.foldr ji []).Pairwise (· <=·):=by
 induction l with
 |nil=>simp
 |cons x l ih=>exact zr x _ ih
theorem DF:jL=oK:=rfl
theorem I7(l:ce):kf l=rZ l:=by
 unfold kf rZ fb;rw[EO (bf1 l) (Nr l),DF,yl (by rw[lI];exact rx _)]
theorem DG(l:ce)(d:Int)(k:Nat):d<=(fI l d k).2/\(fI l d k).2<=d+k:=by
 induction k with
 |zero=>simp[fI]
 |succ k ih=>
  grind [fI,gw]
section
variable{af:Nat}{F:Fx}{w w0:World}{m m0:Mem}{S:Wd}{L:List (Nat×Obj)}
theorem bz.UF(R:bz af F w m S):w.cell? F.gN=m.cU .list S.list:=R.cell R.aB.gN (j:=0) ii
theorem bz.bn0(R:bz af F w m S):w.cell? (F.gN,1)=I S.drawn:=R.cell R.aB.gN (j:=1) ii
theorem At.drawn(A:At af F m0 w0 m w S)(n:Int):At af F m0 w0 m (w.setCell (F.gN,1) n) {S with drawn:=n}:=by
 refine A.set A.bj.aB.gN ii ?_;exact cg5
section
variable(R:bz af F w m S)(n:Int)(hn:1<=n/\n<=100000)
include R n hn
theorem Ss(d:Int)(e:S.drawn=d)(h:(S.list:Int)<=d):gt 197 #[F.gN,n] w (eL (I 0) λw'=>At af F m w m w' S):=by
 have b:=R.UF;have c1:=R.bn0;let⟨a,c,f⟩:=R.shape (r:=.list) (n:=S.list.length) cs9;rw[f]at b;rw[e]at c1;let⟨k,g⟩:=dC (S.list.length);rw[<-g]at b h;have:decide ((k:Int)<=d)=true:=ck0
 have:decide (n<1)=false:=ci8
 go_enter func197,ntmps197;go_wp2_with fail
 go_quiet (fail);go_wp2;go_ret;exact⟨ii,(ag (At.refl R)).out.drewN _⟩
theorem Oa(d:Nat)(g:S.drawn=d)(i:d<=1000000)(v:Int)(h:S.list[d]?=v)(j:0<=v/\v<=65535):gt 197 #[F.gN,n] w (eL (v % n) λw'=>At af F m w m w' {S with drawn:=d+1}):=by
 have c:=R.UF;have c1:=R.bn0;have:=R.frozen R.aB.gN 1;have a:d<S.list.length:=um h;let⟨b,f⟩:=R.has (r:=.list) (by simp only[aj];intro e;rw[at3]at e;rw[e]at a;simp at a);have:w.cell? (b,d)=U v:=R.cell f cr0;rw[Mem.de f]at c;rw[g]at c1;let⟨k,l⟩:=dC (S.list.length);rw[<-l]at c a;have:decide (n<1)=false:=ci8
 have:IntKind.i64.wrap v=v:=jX oX;have:v.tmod n=v % n:=Int.tmod_eq_emod_of_nonneg j.1;have:¬n=0:=oX
 go_enter func197,ntmps197;go_wp2_with fail
 go_quiet (fail);go_wp2_with fail
 go_quiet (fail);go_wp2;trace_state;go_ret;exact⟨ii,(ag ((At.refl R).drawn (d+1))).out.aI⟩
end
theorem yL{o:Option Nat}{l:ce}:∀a,a≠bH.dQ->a≠ .dY->aj (m.eG .dQ o z) {S with aq:=l} a=aj m S a:=by
 intro a b c;cases a<;>first
  |exact aX ii b
  |exact aX ii c
  |rfl
  |(simp[aj,gk,Cu,je,Mem.sL _ _ _ (show bH.au≠ .dQ by simp),(λr d n=>Mem.qv m o z n d) _ (show _≠bH.dQ by simp),ne_eq,reduceCtorEq,as2])
theorem At.LH(A:At af F m0 w0 m w S){g c:Nat}{l:ce}(b:w.grownBy u (m.aV .dQ))(a:u.ownsRow af 3 1 (g,l.length,c) l (l.map I))(d:m.aV .dQ=g\/w<=g):At af F m0 w0 (m.eG .dQ g c) (u.setCell F.dY (g,l.length,c)) {S with aq:=l}:=
 A.row (r:=.dQ) (p:=(3,1)) ii ck4 A.bj.aB.dY sX b a d ii co0 yL
theorem yM{o:Option Nat}{l:List Bool}:∀a,a≠bH.aO->a≠ .aQ->aj (m.eG .aO o z) {S with aO:=l} a=aj m S a:=by
 intro a b c;cases a<;>first
  |exact aX ii b
  |exact aX ii c
  |rfl
  |(simp[aj,gk,Cu,je,Mem.sL _ _ _ (show bH.au≠ .aO by simp),(λr d n=>Mem.qv m o z n d) _ (show _≠bH.aO by simp),ne_eq,reduceCtorEq,as2])
theorem At.BP(A:At af F m0 w0 m w S){l:List Bool}(b:w.grownBy u (m.aV .aO))(a:u.ownsRow af 4 1 (z,l.length,cp) l (l.map B))(c:m.aV .aO=z\/w<=z):At af F m0 w0 (m.eG .aO z cp) (u.setCell (F.aQ,6) (z,l.length,cp)) {S with aO:=l}:=
 A.row (r:=.aO) (p:=(4,1)) ii ck4 A.bj.aB.aQ sX b a c ii co0 yM
theorem CX{cap:Nat}{v:Value}{o:Obj}{z:Int}(A:At af F m0 w0 m u S)(e:f=u.alloc o)(i:v.ownBlock=m.aV .dQ)(j:w2.ownsRow af 3 1 (cp,S.aq.length+1,cap) (S.aq+1) (S.aq.map I++[I z]))(a:f.grownBy w2 v.ownBlock)(b:v.ownBlock=cp\/f<=cp):At af F m0 w0 (m.eG .dQ cp cap) (w2.setCell F.dY (cp,S.aq.length+1,cap)) {S with aq:=S.aq++[z]}:=by
 subst e;rw[i]at a b;have d:(S.aq++[z]).length=S.aq.length+1:=sX
 have h:=(A.alloc o).LH (l:=S.aq++[z]) (g:=cp) (c:=cap) a (by rw[d,al1];exact j) b;rwa[d]at h
theorem AM(R:bz af F w m S)(x:S.aq.length<=4000):gt 202 #[F.dY] w (eL (I S.aq) λw'=>To af F m w {S with aq:=S.aq++[-1]} w'):=by
 let⟨M,y,A,B,C⟩:=AC lC;have s:=R.sM;have E:=R.lt R.aB.dY;have G:=bM3;let⟨n,d⟩:=dC (S.aq.length);let⟨a,c,g⟩:=lL R;let⟨v,f⟩:=dC (m.cU .dQ S.aq.length);have b:=R.owns (r:=.dQ) (p:=(3,1)) ii dX (n:=n) (by simp[aj];omega);rw[d,<-f,<-d]at b;have i:Hid (v.ownBlock=m.aV .dQ):=by rw[f,Mem.mM];exact ag ii
 have j:Hid (v.ownBlock≠F.dY):=by rw[i.out];exact R.jv R.aB.dY sX
 have e:v=(a,n,c):=by rw[f,g,d]
 rw[g,<-d]at s;rw[e]at b i j;have k:=R.frozen R.aB.dY 0;have H:=ag b;have t:=ag d;have J:=R.eS;have:decide ((4096:Int)<=(n:Int))=false:=ci8
 rw[<-d]at x ⊢;clear R f e g b d;go_enter func202,ntmps202;go_wp2_with (at_builtin;go_loud (refine jw (us:=#[I (-1)]) (w2:=w) ii (.tmp 13) (.tmp 14) 28 rfl underlying28 y A B C ii dX dX ii ii (aI8 (-1)) (a,n,c) n _ ii H ii oX J ?_));intro N cap O l q K;have:=fW (o:=.cells #[I (-1)] 3) q s ii j;have:=fN (o:=.cells #[I (-1)] 3) q k E ii j;have u:=ag (CX (z:= -1) G ii i (by rw[<-t.out];exact l) q (by simpa using K));rw[<-t.out]at u;go_wp2;go_ret;trace_state;exact⟨ii,_,u⟩
section
variable(X:AB af F m0 w0 m w S L)
include X
theorem bb7{S':Wd}(h:fZ S Y=S'):gt 150 #[F.ef,Y] w λe w'=>(∃b,e=Value.bool b)/\AB af F m0 w0 m w' S' L:=
 (kv (At.refl X.bj) h).mono λe w' ⟨a,c⟩=>⟨a,X.av c⟩
theorem zy{x:Int}{S':Wd}(h:lh S Y x=S'):gt 103 #[F.ef,Y,x] w λe w'=>(∃b,e=Value.bool b)/\AB af F m0 w0 m w' S' L:=
 (yZ (At.refl X.bj) h).mono λe w' ⟨a,c⟩=>⟨a,X.av c⟩
theorem vj{s:Nat}{S':Wd}(a:Mach.serve S z s Z=S'):gt 152 #[bR F,I z,I s,.bool Z] w (ee λw'=>∃D,AB af F m0 w0 D w' S' L):=
 (yT X.bj z s Z S' a).mono λe w' ⟨b,D,c⟩=>⟨b,D,X.av c⟩
theorem DM{r:Ring}(h:S.au[z]?=r)(a:m.aV (.eU z)=cp)(b:r.Ok)(v:Int):gt 153 #[cp,v] w (eL (.bool (r.put v).2) λw'=>AB af F m0 w0 m w' (S.dZ z (r.put v).1) L):=
 (bh9 X.bj h a b v).mono λe w' ⟨c,d⟩=>⟨c,X.av d⟩
end
section
variable(R:bz af F w m S)(g:Nat)(o:cu)(ca:am)(cn cc:Nat)
include R g o ca cn cc
theorem Jb(S':Wd)(j:lu S g=S'):gt 104 #[.agg #[F.aQ,I g,o.ai,o.ch,o.n,o.v,(ca,cn,cc),o.dG]] w (ee λw'=>At af F m w m w' S'):=by
 have W:=bP4;unfold lu at j;simp only[bW,cI]at j;let⟨x,C,s,k,G,E,j⟩:=j
 cases j;have k:=du k;let⟨a,Y,Z⟩:=ij C k E;have:s<S.ah.length:=um E;have:=R.ax7;have:=bO9;let⟨b,l⟩:∃b:Int,b=if G.done then 1 else 3:=⟨_,ii⟩
 have H:(if G.done=true then(1:Int)else 3)=b:=l.symm;rw[H];have f:Hid ((S.ay g {x with res:=bZ b}).gs[g]?=some {x with res:=bZ b}):=az C
 cases i:G.done with
 |true=>
  have J:=ag i;have K:b=1:=by rw[l,i];rfl
  subst K;clear R C k E l H i;go_enter func104,ntmps104;go_wp2_with fail
  go_region_with (go_at_call 146;refine(pn W.out.aI g a o ca cn cc).mono ?_;rintro e c ⟨rfl,X⟩;have RN:=bP5;obtain⟨p,r,t,u,y,z,A,B⟩:=bP6;have d9:=RN.ax7;have M:=RN.g a 7 _ ii;rw[Y.out]at M;have N:=RN.s Z 6 _ ii;rw[J.out]at N;have O:=bP7;clear X RN)
  all_goals
   go_wp2_with (first|(go_at_call 148;refine(mG O.out.aI g a o ca cn cc 1).mono ?_;rintro e c ⟨rfl,X⟩;obtain⟨p,r,t,u,y,z,A,B⟩:=bP6;have Q:=bP7;clear X)|(go_at_call 146;refine(pn (S:=S.ay g {x with res:=bZ 1}) Q g f o ca cn cc).mono ?_;rintro e c ⟨rfl,X⟩;have RN:=bP5;obtain⟨p,r,t,u,y,z,A,B⟩:=bP6;have k7:=RN.g f 7 _ ii;have T:=RN.frozen RN.aB.gs (g*25+7);have nb:=bP8;have Kn:=bP9;have d:=X.g f {x with res:=bZ 1,aN:= -1} (q:=7) (v:=I (-1));rw[aA]at d;have U:=ag d;clear d;have pS:=bP7;clear X RN)|(go_at_call 98;refine(ig (S:=S.ay g {x with res:=bZ 1,aN:= -1}) U g (az a) o ca cn cc 15).mono ?_;rintro e c ⟨rfl,X⟩;have Hb:=bP7;clear X));exact ch8
 |false=>
  have J:=ag i;have K:b=3:=by rw[l,i];rfl
  subst K;clear R C k E l H i;go_enter func104,ntmps104;go_wp2_with fail
  go_region_with (go_at_call 146;refine(pn W.out.aI g a o ca cn cc).mono ?_;rintro e c ⟨rfl,X⟩;have RN:=bP5;obtain⟨p,r,t,u,y,z,A,B⟩:=bP6;have d9:=RN.ax7;have M:=RN.g a 7 _ ii;rw[Y.out]at M;have N:=RN.s Z 6 _ ii;rw[J.out]at N;have O:=bP7;clear X RN)
  all_goals
   go_wp2_with (first|(go_at_call 148;refine(mG O.out.aI g a o ca cn cc 3).mono ?_;rintro e c ⟨rfl,X⟩;obtain⟨p,r,t,u,y,z,A,B⟩:=bP6;have Q:=bP7;clear X)|(go_at_call 146;refine(pn (S:=S.ay g {x with res:=bZ 3}) Q g f o ca cn cc).mono ?_;rintro e c ⟨rfl,X⟩;have RN:=bP5;obtain⟨p,r,t,u,y,z,A,B⟩:=bP6;have k7:=RN.g f 7 _ ii;have T:=RN.frozen RN.aB.gs (g*25+7);have nb:=bP8;have Kn:=bP9;have d:=X.g f {x with res:=bZ 3,aN:= -1} (q:=7) (v:=I (-1));rw[aA]at d;have U:=ag d;clear d;have pS:=bP7;clear X RN)|(go_at_call 98;refine(ig (S:=S.ay g {x with res:=bZ 3,aN:= -1}) U g (az a) o ca cn cc 15).mono ?_;rintro e c ⟨rfl,X⟩;have Hb:=bP7;clear X));exact ch8
theorem Jd(S':Wd)(a:aW8 S g o.v=S'):gt 100 #[.agg #[F.aQ,I g,o.ai,o.ch,o.n,o.v,(ca,cn,cc),o.dG]] w (ee (To af F m w S')):=by
 unfold aW8 fL at a;simp only[bW,cI]at a;let⟨x,G,s,d,S2,H,z,A,f,J,a⟩:=a
 cases i:f.gs[g]? with
 |none=>rw[i]at a;cases a
 |some K=>
  rw[i]at a
  cases a;have d:=du d;let⟨B,M,C,N,O,E⟩:=mr G d A H J i;have:s<S2.ah.length:=um A;go_enter func100,ntmps100;go_wp2_with (first|(go_at_call 146;refine(pn (ag ((AB.iU R).alloc (iY F g o ca cn cc))) g B o ca cn cc).mono ?_;rintro e c ⟨rfl,X⟩;have b:=bP5;obtain⟨j,k,l,p,r,t,u,y⟩:=bP6;have:=b.dR;have Q:=b.g B 9 _ ii;rw[M.out]at Q;have T:=bP7)|(go_at_call 150;refine(bb7 T N).mono ?_;rintro e c ⟨⟨bb,rfl⟩,X⟩;have b:=bP5;obtain⟨j,k,l,p,r,t,u,y⟩:=bP6;have:=b.ax7;have:=b.s C 5 _ ii;have:=b.frozen b.aB.ah (s*7+5);have U:=ag (X.s C {z with v:=o.v} (q:=5) (v:=I o.v) oX ii)))
  go_region
  all_goals
   go_wp2_with (first|(go_at_call 152;refine(vj (S:=S2.cJ s {z with v:=o.v}) U.out.aI O).mono ?_;rintro e c ⟨rfl,mS,X⟩;obtain⟨j,k,l,p,r,t,u,y⟩:=bP6;have W:=bP7)|(go_at_call 148;refine(mG (S:=f) W g E o ca cn cc 1).mono ?_;rintro e c ⟨rfl,X⟩;obtain⟨j,k,l,p,r,t,u,y⟩:=bP6;have Y:=bP7)|(go_at_call 98;refine(ig (S:=f.ay g {K with res:=bZ 1}) Y g (az E) o ca cn cc 16).mono ?_;rintro e c ⟨rfl,X⟩;have Z:=bP7));go_end0;exact⟨ii,_,Z.out.at_.eq aA⟩
end
theorem qL{o:cu}{S':Wd}(a:jY S z o=S'):∃S2 b,(if cZ S o.ch=true then aH8 S o.ch o.v else some (S,false))=(S2,b)/\(if b=true then fL S2 z λx=>{x with res:=bZ 1,lQ:=S2.av,ae:=16}else if o.ai=4 then fL S2 z λx=>{x with res:=bZ 2,lQ:=S2.av,ae:=16}else Gt S2 z 10)=S':=by
 unfold jY at a;simp[bW]at a;by_cases h:cZ S o.ch=true
 .rw[aF h]at a ⊢;simp only[cI]at a;let⟨⟨S2,b⟩,c,a⟩:=a;exact⟨S2,b,c,a⟩
 rw[aE h]at a ⊢;exact⟨S,false,ii,a⟩
theorem Je(R:bz af F w m S)(N:Good S)(g:Nat)(o:cu)(bO:eX o.ch)(ca:am)(cn cc:Nat)(S':Wd)(d:jY S g o=S'):gt 101 #[.agg #[F.aQ,I g,o.ai,o.ch,o.n,o.v,(ca,cn,cc),o.dG]] w (ee λw'=>At af F m w m w' S'):=by
 have HX:=bP4;let⟨S2,ok,b,d⟩:=qL d;unfold fL at d
 let⟨x,hx,J⟩:∃x,S2.gs[g]?=some x/\S2.gs=S.gs:=by
  have J:S2.gs=S.gs:=by
   split at b
   .unfold aH8 at b;simp only[bW,cI]at b;let⟨⟨c,r⟩,_,f⟩:=b
    cases f;rfl
   cases b;rfl
  cases hx:S2.gs[g]? with
  |some x=>exact⟨x,ii,J⟩
  |none=>
   grind [Gt,fL]
 have i:=bL7;rw[hx]at d;simp only[km,Gt,fL,hx]at d
 cases E:cZ S o.ch with
 |false=>
  rw[aE (by simp[E])]at b
  cases b;have G:=bP1;rw[E]at G;by_cases hk:o.ai=4
  .rw[aE sX,aF hk]at d;have Eu:(o.ai==4)=true:=by simpa using hk
   cases d;have j:Hid (((S).ay g {x with res:=bZ 2}).gs[g]?=some {x with res:=bZ 2}):=az i
   clear R E hx J N;clear hk;go_enter func101,ntmps101;go_wp2_with fail
   go_quiet ((go_at_call 138;exact ag5 (G _)));have l:=HX;go_wp2_with (go_at_call 148;refine(mG l.out.aI g i o ca cn cc 2).mono ?_;rintro e f ⟨rfl,X⟩;have RN:=bP5;obtain⟨p,s,t,u,y,z,A,B⟩:=bP6;have e2:=RN.dM;have O:=bP7;clear X RN);go_region_with (go_at_call 146;refine(pn (S:=(S).ay g {x with res:=bZ 2}) O.out.aI g j o ca cn cc).mono ?_;rintro e f ⟨rfl,X⟩;have RN:=bP5;obtain⟨p,s,t,u,y,z,A,B⟩:=bP6;have d2:=RN.dM;have Q:=RN.g j 12 _ ii;have T:=bQ0;have nb:=bP8;have Kn:=bP9;have U:=bP7;clear X RN)
   all_goals
    have k:=(U.out.aI (w':=_) ii ii ii ii).g j {x with res:=bZ 2,lQ:=(S).av} (q:=12) (v:=I S.av);rw[aA]at k;have W:=ag k;clear k;go_wp2_with (go_at_call 98;refine(ig (S:=(S).ay g {x with res:=bZ 2,lQ:=(S).av}) W.out.aI g (az i) o ca cn cc 16).mono ?_;rintro e f ⟨rfl,X⟩;have FO:=bP7;clear X);exact ch9
  .rw[aE sX,aE hk]at d;have Eu:(o.ai==4)=false:=by simpa using hk
   cases d;clear R E hx J N;clear hk;go_enter func101,ntmps101;go_wp2_with fail
   go_quiet ((go_at_call 138;exact ag5 (G _)));have l:=HX;go_wp2_with (go_at_call 98;refine(ig l.out.aI g i o ca cn cc 10).mono ?_;rintro e f ⟨rfl,X⟩;have FO:=bP7;clear X);refine UV (ad8 ii _ _ _) ii ⟨ii,FO.out.at_⟩
 |true=>
  rw[aF E]at b;unfold aH8 at b;simp only[bW,cI]at b;let⟨⟨c,r⟩,tS,b⟩:=b;let⟨hc,H⟩:=kx tS;clear tS;have eK:=N.au c r H;let⟨rr,rb,pL,Y,c5,cp⟩:=R.iJ H;have:=R.lt pL;have:=R.lt Y;have:=bO9;have:c<S.au.length:=um H;have:IntKind.i64.wrap (o.ch-1)=(c:Int):=cx7
  let⟨HR,uv,lP⟩:=ij H Y eK;let⟨C,K,Z⟩:∃C,C=_/\AB af F m w m C S ([(w.heap.size,iY F g o ca cn cc)]):=⟨_,ii,HX⟩;have jc:=ag Z;let⟨p,s,t,u,y,z,A,B⟩:=jo Z.head;let⟨a0,Hw,zz,gr,d5,dp⟩:=Z.bj.iJ H;rw[pL]at zz;rw[Y]at gr
  cases zz
  cases gr;have G:=ag (λn=>Dc Z.bj o.ch n);rw[E]at G;clear Z
  cases M:(r.put o.v).2 with
  |true=>
   have HP:=ag M;rw[M]at b
   cases b;clear R E hx J N H Y pL eK M hc;rw[aF rfl]at d
   cases d;have j:Hid (((S.dZ c (r.put o.v).1).ay g {x with res:=bZ 1}).gs[g]?=some {x with res:=bZ 1}):=az i
   go_enter func101,ntmps101;go_wp2_with fail
   rw[<-K];clear K;refine WP 21 kX kX ?_;change wpStill _ _ C.drew (λa=>wpList _ _ _ _ a C.drew) _ _;simp only[sS,aW1,sU,rC];repeat still_step
   still_call ((G 1).mono λ_ _ h=>h);repeat still_step
   refine aj0 ?_;go_wp2_with (go_at_call 153;refine(DM jc.out.aI HR uv lP o.v).mono ?_;rw[HP.out];rintro e f ⟨rfl,X⟩;obtain⟨p,s,t,u,y,z,A,B⟩:=bP6;have l:=bP7;clear X);go_wp2_with (go_at_call 148;refine(mG (S:=S.dZ c (r.put o.v).1) l.out.aI g i o ca cn cc 1).mono ?_;rintro e f ⟨rfl,X⟩;have RN:=bP5;obtain⟨p,s,t,u,y,z,A,B⟩:=bP6;have e2:=RN.dM;have O:=bP7;clear X RN);go_region_with (go_at_call 146;refine(pn (S:=(S.dZ c (r.put o.v).1).ay g {x with res:=bZ 1}) O.out.aI g j o ca cn cc).mono ?_;rintro e f ⟨rfl,X⟩;have RN:=bP5;obtain⟨p,s,t,u,y,z,A,B⟩:=bP6;have d2:=RN.dM;have Q:=RN.g j 12 _ ii;have T:=bQ0;have nb:=bP8;have Kn:=bP9;have U:=bP7;clear X RN)
   all_goals
    have k:=(U.out.aI (w':=_) ii ii ii ii).g j {x with res:=bZ 1,lQ:=(S.dZ c (r.put o.v).1).av} (q:=12) (v:=I S.av);rw[aA]at k;have W:=ag k;clear k;go_wp2_with (go_at_call 98;refine(ig (S:=(S.dZ c (r.put o.v).1).ay g {x with res:=bZ 1,lQ:=(S.dZ c (r.put o.v).1).av}) W.out.aI g (az i) o ca cn cc 16).mono ?_;rintro e f ⟨rfl,X⟩;have FO:=bP7;clear X);exact ch9
  |false=>
   have HP:=ag M;rw[M]at b
   cases b;clear R E hx J N H Y pL eK M hc;by_cases hk:o.ai=4
   .rw[aE sX,aF hk]at d;have Eu:(o.ai==4)=true:=by simpa using hk
    cases d;have j:Hid (((S.dZ c (r.put o.v).1).ay g {x with res:=bZ 2}).gs[g]?=some {x with res:=bZ 2}):=az i
    clear hk;go_enter func101,ntmps101;go_wp2_with fail
    rw[<-K];clear K;refine WP 21 kX kX ?_;change wpStill _ _ C.drew (λa=>wpList _ _ _ _ a C.drew) _ _;simp only[sS,aW1,sU,rC];repeat still_step
    still_call ((G 1).mono λ_ _ h=>h);repeat still_step
    refine aj0 ?_;go_wp2_with (go_at_call 153;refine(DM jc.out.aI HR uv lP o.v).mono ?_;rw[HP.out];rintro e f ⟨rfl,X⟩;obtain⟨p,s,t,u,y,z,A,B⟩:=bP6;have l:=bP7;clear X);go_wp2_with (go_at_call 148;refine(mG (S:=S.dZ c (r.put o.v).1) l.out.aI g i o ca cn cc 2).mono ?_;rintro e f ⟨rfl,X⟩;have RN:=bP5;obtain⟨p,s,t,u,y,z,A,B⟩:=bP6;have e2:=RN.dM;have O:=bP7;clear X RN);go_region_with (go_at_call 146;refine(pn (S:=(S.dZ c (r.put o.v).1).ay g {x with res:=bZ 2}) O.out.aI g j o ca cn cc).mono ?_;rintro e f ⟨rfl,X⟩;have RN:=bP5;obtain⟨p,s,t,u,y,z,A,B⟩:=bP6;have d2:=RN.dM;have Q:=RN.g j 12 _ ii;have T:=bQ0;have nb:=bP8;have Kn:=bP9;have U:=bP7;clear X RN)
    all_goals
     have k:=(U.out.aI (w':=_) ii ii ii ii).g j {x with res:=bZ 2,lQ:=(S.dZ c (r.put o.v).1).av} (q:=12) (v:=I S.av);rw[aA]at k;have W:=ag k;clear k;go_wp2_with (go_at_call 98;refine(ig (S:=(S.dZ c (r.put o.v).1).ay g {x with res:=bZ 2,lQ:=(S.dZ c (r.put o.v).1).av}) W.out.aI g (az i) o ca cn cc 16).mono ?_;rintro e f ⟨rfl,X⟩;have FO:=bP7;clear X);exact ch9
   rw[aE sX,aE hk]at d;have Eu:(o.ai==4)=false:=cn9
   cases d;clear hk;go_enter func101,ntmps101;go_wp2_with fail
   rw[<-K];clear K;refine WP 21 kX kX ?_;change wpStill _ _ C.drew (λa=>wpList _ _ _ _ a C.drew) _ _;simp only[sS,aW1,sU,rC];repeat still_step
   still_call ((G 1).mono λ_ _ h=>h);repeat still_step
   refine aj0 ?_;go_wp2_with (go_at_call 153;refine(DM jc.out.aI HR uv lP o.v).mono ?_;rw[HP.out];rintro e f ⟨rfl,X⟩;obtain⟨p,s,t,u,y,z,A,B⟩:=bP6;have l:=bP7;clear X);go_wp2_with (go_at_call 98;refine(ig (S:=S.dZ c (r.put o.v).1) l.out.aI g i o ca cn cc 10).mono ?_;rintro e f ⟨rfl,X⟩;have FO:=bP7;clear X);refine UV (ad8 ii _ _ _) ii ⟨ii,FO.out.at_⟩
theorem DN(a:Nat)(n:Int)(W:World)(h:W.cell? (a,2)=I n):Calls prog 203 #[a] W λe w'=>e=n/\W=w':=by
 exact bZ9
theorem bb1(b:Nat)(a:am)(n c:Nat)(W:World)(h:W.cell? b=some (.slice a n c)):Calls prog 53 #[b] W λe w'=>e=I n/\W=w':=by
 exact bZ9
theorem Tj(R:bz af F w m S)(o:cu)(ca:am)(cn cc:Nat)(c:cZ S o.ch=false):gt 143 #[bR F,.agg #[o.ai,o.ch,o.n,o.v,(ca,cn,cc),o.dG]] w (eL (I 0) λw'=>At af F m w m w' S):=by
 have a:=bQ1;have b:=ag (aJ5 a.out.bj o.ch);rw[c]at b;unfold bR;go_enter func143,ntmps143;go_wp2_with (go_at_call 138;refine b.out.mono ?_;rintro e w' ⟨rfl,rfl⟩);go_ret;exact⟨ii,a⟩
section
variable(R:bz af F w m S)(o:cu)(bO:eX o.ch)(ca:am)(cn cc:Nat)
include R o bO ca cn cc
theorem PU(j:cZ S o.ch)(c:Nat)(z:o.ch=c+1)(r:Ring)(f:S.au[c]?=r):gt 143 #[bR F,.agg #[o.ai,o.ch,o.n,o.v,(ca,cn,cc),o.dG]] w (eL (I (if o.ai=7 then r.count else r.room)) λw'=>At af F m w m w' S):=by
 have k:=bQ1;have l:=ag (aJ5 k.out.bj o.ch);rw[j]at l;let⟨M,b,p,g,N,O⟩:=R.iJ f;let⟨Q,A,a,G,C,i,T,q,_⟩:=R.eU f;rw[g]at A
 cases A;have:c<S.au.length:=um f;have:IntKind.i64.wrap (o.ch-1)=(c:Int):=cx7
 have:=bO9;have:=R.lt p;have E:=R.lt g;unfold Ring.room;obtain⟨n,s⟩:=bO6;rw[<-s]at i ⊢;have t:=ag (λW h=>DN b r.count W h);have u:=ag (λW h=>bb1 b a n G W h);have y:∀(x:Nat),((w.alloc (.cells #[I o.ai,I o.ch,I o.n,I o.v,(ca,cn,cc),B o.dG] 49)).drewN x).cell? b=w.cell? b:=λx=>kZ (a:=b) (gf w _ b E)
 have d:∀(x:Nat),((w.alloc (.cells #[I o.ai,I o.ch,I o.n,I o.v,(ca,cn,cc),B o.dG] 49)).drewN x).cell? (b,2)=w.cell? (b,2):=λx=>kZ (a:=(b,2)) (gf w _ b E)
 have H:Hid (∀(x:Nat),gt 203 #[b] ((w.alloc (.cells #[I o.ai,I o.ch,I o.n,I o.v,(ca,cn,cc),B o.dG] 49)).drewN x) λe w'=>e=I r.count/\w'=((w.alloc (.cells #[I o.ai,I o.ch,I o.n,I o.v,(ca,cn,cc),B o.dG] 49)).drewN x)):=λx=>(t _ ((d x).trans q)).mono λe w' h=>⟨h.1,h.2.symm⟩
 have J:Hid (∀(x:Nat),gt 53 #[b] ((w.alloc (.cells #[I o.ai,I o.ch,I o.n,I o.v,(ca,cn,cc),B o.dG] 49)).drewN x) λe w'=>e=I n/\w'=((w.alloc (.cells #[I o.ai,I o.ch,I o.n,I o.v,(ca,cn,cc),B o.dG] 49)).drewN x)):=λx=>(u _ ((y x).trans i)).mono λe w' h=>⟨h.1,h.2.symm⟩
 by_cases hk:o.ai=7
 .rw[aF hk];have K:(o.ai==7)=true:=by simpa using hk
  clear R j f p g C s hk y d t u i q z;unfold bR;go_enter func143,ntmps143;go_wp2_with (go_at_call 138;refine l.out.mono ?_;rintro e w' ⟨rfl,rfl⟩);go_quiet ((go_at_call 203;exact ag5 (H _)));go_wp2;go_ret;exact⟨ii,k.out.drewN _⟩
 rw[aE hk];have K:(o.ai==7)=false:=cn9
 clear R j f p g C s hk y d t u i q z;unfold bR;go_enter func143,ntmps143;go_wp2_with (go_at_call 138;refine l.out.mono ?_;rintro e w' ⟨rfl,rfl⟩);go_quiet ((go_at_call 53;exact ag5 (J _)));go_wp2;go_ret;exact⟨ii,k.out.drewN _⟩
theorem Mt(n:Int)(a:wQ S o=n):gt 143 #[F.aQ,.agg #[o.ai,o.ch,o.n,o.v,(ca,cn,cc),o.dG]] w (eL n λw'=>At af F m w m w' S):=by
 unfold wQ at a
 cases b:cZ S o.ch with
 |false=>rw[aF b]at a;cases a;exact Tj R o ca cn cc b
 |true=>
  rw[aE (by simp[b])]at a;simp only[aH5]at a;let⟨⟨c,r⟩,d,a⟩:=a;let⟨e,f⟩:=kx d;grind [PU]
end
structure aX7(m:Mem)(H:Nat)(L:List (Nat×Obj))(w:World)(v:Value)(n:Nat)(xs:ce):Prop where
 own:w.ownsRow H 3 1 v n (xs.map I)
 free:∀g,v.ownBlock=some g->(∀r,m.aV r≠g)/\∀p∈L,p.1≠g
section
variable{n:Nat}{v:Value}{xs:ce}(h:aX7 m z L w v n xs)
include h
theorem aX7.shape:∃a c,v=.slice a n c:=by
 obtain⟨b,e⟩|⟨g,cap,d,b,_⟩:=h.own.2;all_goals grind
theorem aX7.len:xs=n:=by
 have:=h.own.1;simpa using this
end
theorem aX7.nil(m:Mem)(H:Nat)(L:List (Nat×Obj))(w:World):aX7 m H L w () 0 []:=⟨ai9 _ _ _ _,λg h=>by cases h⟩
section
variable{v:Value}{xs:ce}(h:aX7 m z L w v cp xs)
include h
theorem aX7.keep(b:∀g,v.ownBlock=some g->w'.heap[g]?=w.heap[g]?):aX7 m z L w' v cp xs:=by
 refine⟨⟨h.own.1,?_⟩,h.free⟩;obtain c|⟨g,cap,a,rfl,d,e,f⟩:=h.own.2
 .exact .inl c
 exact .inr ⟨g,cap,a,ii,d,by rw[b g rfl];exact e,f⟩
theorem aX7.av(B:At af F m w m w' S'):aX7 m z L w' v cp xs:=by
 refine h.keep λg a=>?_
 obtain⟨b,_⟩|⟨e,cap,c,rfl,f,d,_⟩:=h.own.2
 .rw[b]at a;cases a
 cases a;exact B.mv.keep _ (dh d).1 (h.free _ ii).1
theorem aX7.below(d:Below w w w'):aX7 m z L w' v cp xs:=by
 refine h.keep λg a=>?_
 obtain⟨b,_⟩|⟨e,cap,c,rfl,f,i,_⟩:=h.own.2
 .rw[b]at a;cases a
 cases a;grind [Below.block]
end
theorem AB.af0(X:AB af F m0 w0 m w S L){v:Value}(f:∀g,v.ownBlock=some g->(∀r,m.aV r≠g)/\∀p∈L,p.1≠g)(h:∀g,v.ownBlock=some g->w0<=g)(a:w.grownBy w' v.ownBlock):AB af F m0 w0 m w' S L:=by
 refine⟨⟨⟨a.os.trans X.at_.mv.os,a.tape.trans X.at_.mv.tape,a.output.trans X.at_.mv.output,jm X.at_.mv.size a.size,λb c i=>?_,X.at_.mv.old⟩,X.bj.heap λr b c=>a.block b (X.bj.lt c) (λe=>(f b e.symm).1 r c)⟩,λp d=>⟨?_,(X.loc p d).2⟩⟩
 .rw[a.block b (uB c X.at_.mv.size) (λe=>by have:=h b e.symm;omega)];exact X.at_.mv.keep b c i
 have:=(X.loc p d).1;grind [World.grownBy.block]
theorem IH(R:bz af F w m S)(aG:Good S)(f:Int)(t:eX f)(s:Nat)(S2:Wd)(v:Int)(hm:ik S f s=(S2,v)):gt 165 #[bR F,f,I s] w (eL v λw'=>At af F m w m w' S2):=by
 have Ap:=bM3;have HM:=ag (aJ5 R f);unfold ik at hm
 cases gv:cZ S f with
 |false=>
  rw[aF gv]at hm
  cases hm;rw[gv]at HM;unfold bR;go_enter func165,ntmps165;go_wp2_with (go_at_call 138;refine HM.out.mono ?_;rintro e w1 ⟨rfl,rfl⟩);go_ret;exact⟨ii,Ap⟩
 |true=>
  rw[aE (by simp[gv])]at hm;rw[gv]at HM;simp only[bW,cI]at hm;obtain⟨sd,RY,⟨c,r⟩,l,hm⟩:=hm;let⟨o,hr⟩:=kx l;subst o;have:s<S.ah.length:=um RY;have:=R.ax7;have:decide ((s:Int)<0)=false:=sX
  have:=R.s RY 5 _ ii;let⟨u,x,pL,fA,y,z⟩:=R.iJ hr;let⟨B,k,a,p,hh,q,C,E,_⟩:=R.eU hr;rw[fA]at k
  cases k;have eK:=aG.au c r hr;have:c<S.au.length:=um hr;have:IntKind.i64.wrap ((c:Int)+1-1)=(c:Int):=cx7
  let⟨HR,uv,lP⟩:=ij hr fA eK;obtain⟨n,hn⟩:=bO6;unfold Ring.room at hm;rw[<-hn]at q hm;by_cases hp:(n:Int)=0
  .rw[aF hp]at hm
   cases hm;obtain rfl:n=0:=oX
   clear R aG gv RY hr pL fA eK hh hn hp;unfold bR;go_enter func165,ntmps165;go_wp2_with (first|(go_at_call 138;refine HM.out.mono ?_;rintro e w1 ⟨rfl,rfl⟩)|(go_at_call 53;go_in));go_ret;exact⟨ii,Ap⟩
  rw[aE hp]at hm;have:((n:Int)==0)=false:=by simpa using hp
  let⟨g,b,d⟩:∃g b,(r.pass sd.v).2=(g,b):=⟨_,_,ii⟩;have i:(r.pass sd.v).2.1=g:=by rw[d]
  have j:(r.pass sd.v).2.2=b:=by rw[d]
  rw[i,j]at hm;let⟨Nq,En⟩:=dA i j;clear d i j
  cases b with
  |true=>
   exact ca8
  |false=>
   exact ca8
end
def zG(o:cu)(i:Int):Int:=((idx o.cases i).map (·.ch)).getD 0
def lY(S:Wd)(o:cu)(l:ce):List (Int×Int):=(l.map λi=>(i,zG o i)).filter λp=>cZ S p.2
theorem zH(S:Wd)(o:cu)(l:ce)(i:Int):lY S o (l++[i])=lY S o l++(if cZ S (zG o i)then[(i,zG o i)]else[]):=by
 unfold lY;split
 .rename_i h;simp[h]
 rename_i h;simp[h]
theorem Ck(S:Wd)(o:cu)(l:ce):(lY S o l).length<=l:=by
 exact jm (ar9 _ _) sX
theorem mapM_some{α β:Type}{f:α->Option β}:∀{l:List α} {r:List β},l.mapM f=r->(∀a∈l,∃b,f a=some b)/\∀(h:α->β),(∀a b,f a=some b->h a=b)->r=l.map h
 | [],r,e=>by simp at e;subst e;simp
 |a::l,r,e=>by
  simp[bI3,Option.pure_def,bW,cI]at e;let⟨b,d,n,i,j⟩:=e
  cases j;let⟨k,m⟩:=mapM_some i;refine⟨λc hc=>?_,λh g=>?_⟩
  .obtain rfl|hc:=iL.1 hc
   .exact⟨b,d⟩
   exact k c hc
  rw[ae8,g a b d,<-m h g]
theorem Ji{o:cu}{k:ce}{u:List (Int×Int)}(h:aT3 t o k=u):(∀i∈rz k k,∃j:Nat,i=j/\∃c,o.cases[j]?=some c/\c.ch=zG o i/\ -1000000000<=c.ch/\c.ch<=1000000000)/\u=lY t o (rz k k):=by
 unfold aT3 at h;rw[PH]at h
 cases n:(rz k k.length).mapM λi=>(iF o i).map λc=>(i,c.ch) with
 |none=>rw[n]at h;cases h
 |some r=>
  rw[n]at h;simp[oZ]at h;let⟨w,x⟩:=mapM_some n
  have key:∀i p,(iF o i).map (λc=>(i,c.ch))=some p->∃j:Nat,i=j/\∃c,o.cases[j]?=some c/\c.ch=zG o i/\ -1000000000<=c.ch/\c.ch<=1000000000/\(i,zG o i)=p:=by
   intro i p g
   cases l:iF o i with
   |none=>rw[l]at g;cases g
   |some c=>
    rw[l]at g;simp at g;subst g;unfold iF at l;simp only[bW,cI]at l;let⟨y,v,q⟩:=l;split at q
    .cases q;rename_i m;obtain⟨j,rfl,z,s⟩:=mO v;have e:zG o j=c.ch:=(by unfold zG;rw[v];rfl);unfold kJ at m;simp at m;exact⟨j,ii,c,s,e.symm,m.1,m.2,cx5⟩
    cases q
  refine⟨λi m=>?_,?_⟩
  .let⟨p,g⟩:=w i m;let⟨j,a,c,b,d,e,f,_⟩:=key i p g;exact⟨j,a,c,b,d,e,f⟩
  rw[<-h,x (λi=>(i,zG o i)) (λi p g=>?_)]
  .rfl
  let⟨_,_,_,_,_,_,_,e⟩:=key i p g;exact e
section
variable{af b j:Nat}{F:Fx}{w w' w0 w1 wr W:World}{m m0:Mem}{S S':Wd}{r:bH}{v:Value}{L:List (Nat×Obj)}
section
variable(A:At af F m0 w0 m w S)
include A
theorem At.Qd(f:r.loose){c:bH}{g n:Nat}{p:Nat×Nat}(nI:∀q,eI r=some q->q=p)(hp:m.aV c=z)(cM:c≠r)(hown:w.ownsRow af p.1 p.2 (g,n,cp) n J)(i:∀a,m.aV a≠g)(k:w0<=g)(l:aj (m.eG r g cp) S' r=J)(s:aj (m.eG r g cp) S' c=(aj m S c).set j (g,n,cp))(t:∀a,a≠r->a≠c->aj (m.eG r g cp) S' a=aj m S a):At af F m0 w0 (m.eG r g cp) (w.setCell (z,j) (g,n,cp)) S':=by
 obtain⟨u,x⟩:=bL6;refine⟨?_,A.bj.row (S':=S') (j:=j) (v:=(g,n,cp)) (r:=r) f (c:=cp) (o:=some g) hp cM (λE y=>by cases y;rw[l];exact⟨u,x,λa B _ C e=>i a (e▸C)⟩) (nofun) s t⟩
 have D:pe m0 w0 (m.eG r g cp) w:=by
  refine⟨A.mv.os,A.mv.tape,A.mv.output,A.mv.size,A.mv.keep,λa B d=>?_⟩;by_cases e:a=r
  .subst e;rw[Mem.dL]at d;cases d;exact .inr k
  rw[Mem.bN e]at d;exact A.mv.old _ _ d
 exact D.setCell (r:=c) ct6 _
theorem At.Qe{j:Nat}{x:bI}(hx:S.gs[j]?=x){v:Value}{n:Nat}{l:ce}(hn:l=n)(c:w.ownsRow af 3 1 v n (l.map I))(s:∀g,v.ownBlock=some g->(∀a,m.aV a≠g)/\w0<=g):∃i,At af F m0 w0 i (w.setCell (F.gs,j*25+20) v) (S.ay j {x with aH:=l})/\∀b,i.aV (.aH j)≠some b->(∀a,m.aV a≠b)->∀a,i.aV a≠b:=by
 subst hn;obtain⟨o,t⟩|⟨g,cap,u,rfl,t,y,B⟩:=c.2
 .have:l=[]:=xn t;subst this o;refine⟨_,A.Ez hx,λb _ h a e=>?_⟩;by_cases d:a=.aH j
  .subst d;rw[Mem.dL]at e;cases e
  rw[Mem.bN d]at e;exact h a e
 refine⟨_,A.Qd (r:=.aH j) (p:=(3,1)) ii ct0 A.bj.aB.gs sX c (s g ii).1 (s g ii).2 ?_ ?_ (iz (.inl rfl) hx _ _ ii sX sX sX sX),λb o h a e=>?_⟩
 .simp[aj,Wd.ay,cX hx]
 .exact cd9
 by_cases d:a=.aH j
 .subst d;exact o e
 rw[Mem.bN d]at e;exact h a e
theorem At.zI{j:Nat}{x:bI}(hx:S.gs[j]?=x){v:Value}{n:Nat}{l:ce}(hn:l=n)(a:w.ownsRow af 3 1 v n (l.map I))(c:∀g,v.ownBlock=some g->(∀e,m.aV e≠g)/\w0<=g):∃i,At af F m0 w0 i (w.setCell (F.gs,j*25+21) v) (S.ay j {x with aq:=l}):=by
 subst hn;obtain⟨o,d⟩|⟨g,cap,s,rfl,d,t,u⟩:=a.2
 .have:l=[]:=xn d;subst this o;exact⟨_,A.EA hx⟩
 refine⟨_,A.Qd (r:=.aq j) (p:=(3,1)) ii ct0 A.bj.aB.gs sX a (c g ii).1 (c g ii).2 ?_ ?_ (iz (.inr (.inl rfl)) hx _ _ ii sX sX sX sX)⟩
 .simp[aj,Wd.ay,cX hx]
 exact cd6
end
theorem AB.below(X:AB af F m0 w0 m w S L)(c:Below w w w'):AB af F m0 w0 m w' S L:=
 ⟨X.at_.heap c,λp a=>⟨by rw[c.block p.1 (dh (X.loc p a).1).1];exact(X.loc p a).1,(X.loc p a).2⟩⟩
structure vk(B:Nat)(wA wr:World)(v8 v9:Value)(l8 l9:ce):Prop where
 DS:Below B wA wr
 hB:B<=wr
 o8:wr.ownsRow B 3 1 v8 l8 (l8.map I)
 o9:wr.ownsRow B 3 1 v9 l9 (l9.map I)
 apart:∀g,v8.ownBlock=some g->v9.ownBlock≠g
section
variable{B size:Nat}
theorem vl{v:Value}(h:w.ownsRow B z size v cp J)(d:∀g,v.ownBlock=some g->g<w->w'.heap[g]?=w.heap[g]?):w'.ownsRow B z size v cp J:=by
 refine⟨h.1,?_⟩;obtain f|⟨g,cap,a,rfl,i,c,k⟩:=h.2
 .exact .inl f
 exact .inr ⟨g,cap,a,ii,i,by rw[d g ii (dh c).1];exact c,k⟩
theorem qo{v:Value}(h:w.ownsRow B z size v cp J):∃a c,v=.slice a cp c:=by
 obtain⟨d,f⟩|⟨i,cap,g,d,_⟩:=h.2
 .exact⟨none,0,by rw[d,f]⟩
 exact⟨_,_,d⟩
theorem pN{v:Value}(h:w.ownsRow B z size v cp J){g:Nat}(a:v.ownBlock=g):B<=g/\g<w:=by
 obtain⟨c,_⟩|⟨k,cap,d,rfl,f,i,l⟩:=h.2
 .rw[c]at a;cases a
 cases a;exact⟨f,(dh i).1⟩
end
theorem vk.heap{B:Nat}{c:World}{d e:Value}{f h:ce}(P:vk B c wr d e f h)(a:w'.heap=wr.heap)(i:w'.os=wr.os)(l:w'.tape=wr.tape)(n:w'.output=wr.output):vk B c w' d e f h:=
 ⟨⟨by rw[i];exact P.DS.os,by rw[l];exact P.DS.tape,by rw[n];exact P.DS.output,by rw[a];exact P.DS.size,λk o=>by rw[a];exact P.DS.block k o⟩,by rw[a];exact P.hB,vl P.o8 λg _ _=>by rw[a],vl P.o9 λg _ _=>by rw[a],P.apart⟩
section
variable{B:Nat}{wA:World}{v8 v9:Value}{l8 l9:ce}{o:Obj}{g cap:Nat}{i:Int}(P:vk B wA wr v8 v9 l8 l9)(hW:W.heap=(wr.alloc o).heap)(Rx:W.os=wr.os)(hW3:W.tape=wr.tape)(hW4:W.output=wr.output)
include P hW Rx hW3 hW4
theorem vk.Va(a:w1.ownsRow B 3 1 (g,l8.length+1,cap) (l8+1) (l8.map I++[I i]))(f:W.grownBy w1 g)(s:(∃c,v8=.slice g l8 c)\/g=W):vk B wA w1 (g,l8.length+1,cap) v9 (l8++[i]) l9:=by
 have:W=wr.heap.size+1:=by rw[hW];simp
 have:B<=g:=(pN a ii).1;have p:∀k,k<wr.heap.size->k≠g->w1.heap[k]?=wr.heap[k]?:=λk n t=>by rw[f.block k oX (λe=>t (mx e)),hW];exact gf wr o k n
 have q:∀d,v9.ownBlock=some d->d≠g:=by
  intro d l e;subst e;obtain⟨c,rfl⟩|h:=s
  .exact P.apart d ii l
  have:=(pN P.o9 l).2;omega
 refine⟨⟨by rw[f.os,Rx];exact P.DS.os,by rw[f.tape,hW3];exact P.DS.tape,by rw[f.output,hW4];exact P.DS.output,by have:=P.DS.size;have:=f.size;omega,λk n=>by rw[p k (by have:=P.hB;omega) oX];exact P.DS.block k n⟩,by have:=f.size;have:=P.hB;omega,by simpa using a,vl P.o9 λd l u=>p d u (q d l),λd h x=>?_⟩;simp[Value.ownBlock]at h;subst h;exact q _ x ii
theorem vk.af1(a:w1.ownsRow B 3 1 (g,l9.length+1,cap) (l9+1) (l9.map I++[I i]))(e:W.grownBy w1 g)(f:(∃c,v9=.slice g l9 c)\/g=W):vk B wA w1 v8 (g,l9.length+1,cap) l8 (l9++[i]):=by
 have Q:vk B wA wr v9 v8 l9 l8:=⟨P.DS,P.hB,P.o9,P.o8,λg h d=>P.apart g d h⟩;have Z:=Q.Va hW Rx hW3 hW4 a e f;exact⟨Z.DS,Z.hB,Z.o9,Z.o8,λg h d=>Z.apart g d h⟩