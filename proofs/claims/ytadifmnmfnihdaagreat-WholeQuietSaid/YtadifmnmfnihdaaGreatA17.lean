import Derived.Test.YtadifmnmfnihdaaGreatA14
import Derived.Test.YtadifmnmfnihdaaGreatA15
import Derived.Test.YtadifmnmfnihdaaGreatA16
set_option linter.all false
set_option maxRecDepth 100000
set_option maxHeartbeats 40000000
namespace Go.Proofs.YtadifmnmfnihdaaGreat
open Go.RowKit Mach Go.Proofs.Tryz
variable{v u f w':World}{D Q:Mem}{t E S':Wd}{b z cp:Nat}{e O:bI}{sd:fE}{Y:Int}{Z:Bool}{J:bi}{us:dl}
section
variable{af:Nat}{F:Fx}{w w0:World}{m m0:Mem}{S:Wd}{L:List (Nat×Obj)}
theorem Bq(R:bz af F w m S)(g:Nat)(p:Int)(S':Wd)(a:jt S g p=S'):gt 112 #[F.aQ,I g,p] w (ee λw'=>At af F m w m w' S'):=by
 unfold jt at a;simp only[bW,cI]at a;obtain⟨x,i,l,b,a⟩:=a;obtain⟨k,d,_,b⟩:=mO b;by_cases e:kJ l=false
 .rw[aF e]at a;cases a
 rw[aE e]at a;have j:=lM e;by_cases c:(ax8 S.aq (l-1) g).2=false
 .rw[aF c]at a
  cases a;exact E6 R g p x i k d l b j c
 rw[aE c]at a;by_cases f:kJ x.k=false
 .rw[aF f]at a;cases a
 rw[aE f]at a
 cases a;have n:=lM f;have h:=CV R g p x i k d l b j (by simpa using c) oX _ ii;rw[d];exact h
theorem qY(h:dU e=Y):∃a:Nat,e.k=a/\e.aH[a]?=Y:=by
 obtain⟨a,b,_,c⟩:=mO h;exact⟨a,b,c⟩
theorem D0{α:Type}{l b:List α}{x:α}(h:Mach.put l Y x=b):∃k:Nat,Y=k/\k<l/\b=l.set k x:=by
 unfold Mach.put at h;by_cases a:0<=Y/\Y.toNat<l.length
 .rw[aF a]at h
  cases h;exact⟨Y.toNat,oX,a.2,ii⟩
 rw[aE a]at h;cases h
theorem D1(r:AB af F m0 w0 m w S L)(s:Good S)(g:Nat)(o:cu)(d:Nat)(e:Obj)(t:(d,e)∈L)(u:CB d e o.cases)(f:Nat)(S':Wd)(a:ju S g o=S'):gt 116 #[F.aQ,I g,.agg #[o.ai,o.ch,o.n,o.v,(d,o.cases.length,f),o.dG]] w (ee λw'=>∃D,AB af F m0 w0 D w' S' L):=by
 unfold ju at a;simp only[bW,cI]at a;obtain⟨x,y,a⟩:=a;obtain⟨p,v,b,l⟩:∃p v b,S.Eg.take g=(p,v,b):=⟨_,_,_,ii⟩;rw[l]at a
 cases b with
 |false=>
  simp only[dt]at a
  cases a;exact DZ r s g x y o d e t u f p v l
 |true=>
  simp only[aH6,dF,cI]at a;obtain⟨i,q,c,O,j,z,H,J,T,Q,a⟩:=a;have z:=du z;obtain⟨A,B,q⟩:=qY q;obtain⟨k,R,K,U⟩:=qW O;subst R;by_cases C:kJ x.k=false
  .rw[aF C]at a;cases a
  rw[aE C]at a;have E:=lM C;obtain⟨G,W,M,rfl⟩:=D0 Q;obtain rfl:G=k:=oX
  subst z;rw[B]at a E;by_cases N:(x.aH.length:Int)<=(A:Int)+1
  .rw[aF N]at a
   cases a;exact Bp r s g x y o d e t u f p j l A G B E.2 q c K H J M oX
  rw[aE N]at a
  cases a;exact zX r s g x y o d e t u f p j l A G B E.2 q c K H J M oX
theorem QP(y:AB af F m0 w0 m w S L)(g:Nat)(o:cu)(d:Nat)(e:Obj)(z:(d,e)∈L)(A:CB d e o.cases)(q:Nat)(S':Wd)(a:gK S g o=S'):gt 117 #[F.aQ,I g,.agg #[o.ai,o.ch,o.n,o.v,(d,o.cases.length,q),o.dG]] w (ee λw'=>∃D,AB af F m0 w0 D w' S' L):=by
 unfold gK at a;simp only[bW,cI]at a;obtain⟨x,B,i,f,c,G,s,r,S1,j,a⟩:=a;obtain⟨l,t,f⟩:=qY f;obtain⟨k,H,C,E⟩:=qW G;subst H;rw[eR]at r;by_cases b:kJ x.k=false
 .rw[aF b]at a;cases a
 rw[aE b]at a;have b:=lM b;rw[t]at a b
 cases p:c.cF with
 |true=>
  rw[p,aF rfl]at j;by_cases u:(x.aH.length:Int)<=(l:Int)+1
  .rw[aF u]at a
   cases a;exact Co y g x B o d e z A q l k t b.2 f c C _ (.inl ⟨p,ii⟩) E s r S1 j oX
  .rw[aE u]at a
   cases a;exact zY y g x B o d e z A q l k t b.2 f c C _ (.inl ⟨p,ii⟩) E s r S1 j oX
 |false=>
  rw[p,aE sX]at j;by_cases u:(x.aH.length:Int)<=(l:Int)+1
  .rw[aF u]at a
   cases a;exact Co y g x B o d e z A q l k t b.2 f c C _ (.inr ⟨p,ii⟩) E s r S1 j oX
  rw[aE u]at a
  cases a;exact zY y g x B o d e z A q l k t b.2 f c C _ (.inr ⟨p,ii⟩) E s r S1 j oX
theorem MS(R:bz af F w m S)(g:Nat)(S':Wd)(a:uG S g=S'):gt 120 #[F.aQ,I g] w (ee λw'=>At af F m w m w' S'):=by
 unfold uG at a;simp only[bW,cI]at a;obtain⟨x,j,i,c,s,d,S1,l,a⟩:=a;obtain⟨e,f,c⟩:=qY c;obtain⟨k,o,_,d⟩:=mO d;subst o;by_cases b:kJ x.k=false
 .rw[aF b]at a;cases a
 rw[aE b]at a;have b:=lM b;rw[f]at a b;by_cases n:(x.aH.length:Int)<=(e:Int)+1
 .rw[aF n]at a
  cases a;exact QM R g x j e k f b.2 c s d S1 l oX
 rw[aE n]at a
 cases a;exact MQ R g x j e k f b.2 c s d S1 l oX
theorem Br(R:bz af F w m S)(o:Good S)(g:Nat)(S':Wd)(a:jK S g=S'):gt 122 #[F.aQ,I g] w (ee (To af F m w S')):=by
 unfold jK at a;simp only[bW,cI]at a;obtain⟨x,p,i,d,s,e,a⟩:=a;obtain⟨f,l,d⟩:=qY d;obtain⟨k,y,_,e⟩:=mO e;subst y;by_cases q:s= -1
 .rw[aF q]at a;simp only[eN,cI]at a;obtain⟨z,r,a⟩:=a;obtain⟨c,A,_,rfl⟩:=D0 r;obtain rfl:c=k:=by omega
  by_cases b:kJ x.k=false
  .rw[aF b]at a;cases a
  rw[aE b]at a;have b:=lM b;rw[l]at a b;subst q;by_cases n:(x.aH.length:Int)<=(f:Int)+1
  .rw[aF n]at a
   cases a;exact QN R o g x p f c l b.2 d e _ (.inl ⟨oX,ii⟩)
  rw[aE n]at a
  cases a;exact QN R o g x p f c l b.2 d e _ (.inr ⟨oX,ii⟩)
 rw[aE q]at a;simp only[eN,cI]at a;obtain⟨S1,⟨j,t,u,v,B⟩,z,r,a⟩:=a;obtain⟨c,A,_,rfl⟩:=D0 r;obtain rfl:c=k:=oX
 by_cases b:kJ x.k=false
 .rw[aF b]at a;cases a
 rw[aE b]at a;have b:=lM b;rw[l]at a b;have t:=du t;subst t
 cases B;by_cases n:(x.aH.length:Int)<=(f:Int)+1
 .rw[aF n]at a
  cases a;exact QO R o g x p f c l b.2 d j u v e _ (.inl ⟨oX,ii⟩)
 rw[aE n]at a
 cases a;exact QO R o g x p f c l b.2 d j u v e _ (.inr ⟨oX,ii⟩)
section
variable(A:At af F m0 w0 m w S)
include A
theorem bk8{S':Wd}(a:jt S b Y=S'):gt 112 #[bR F,I b,Y] w (ee (To af F m0 w0 S')):=
 (Bq A.bj b Y S' a).mono λe w' ⟨c,d⟩=>⟨c,m,A.cont d⟩
theorem D2(a:∀x,S.gs[b]?=some x->x.bA.length<=1000000){S':Wd}(c:iH S b=S'):gt 118 #[bR F,I b] w (ee (To af F m0 w0 S')):=
 (zi A.bj b a S' c).mono λe w' ⟨d,f⟩=>⟨d,m,A.cont f⟩
theorem T1{S':Wd}(a:uF S b=S'):gt 119 #[bR F,I b] w (ee (To af F m0 w0 S')):=
 (MJ A.bj b S' a).mono λe w' ⟨c,d⟩=>⟨c,m,A.cont d⟩
theorem T2{S':Wd}(a:uG S b=S'):gt 120 #[bR F,I b] w (ee (To af F m0 w0 S')):=
 (MS A.bj b S' a).mono λe w' ⟨c,d⟩=>⟨c,m,A.cont d⟩
theorem GB(a:Good S){S':Wd}(c:jK S b=S'):gt 122 #[bR F,I b] w (ee (To af F m0 w0 S')):=
 (Br A.bj a b S' c).mono λe w' ⟨d,D,f⟩=>⟨d,D,A.cont f⟩
theorem MT(a:Good S){S':Wd}(c:gH S b=(S',Z)):gt 105 #[bR F,I b] w (eL (.bool Z) (To af F m0 w0 S')):=
 (xd A.bj a b S' Z c).mono λe w' ⟨d,D,f⟩=>⟨d,D,A.cont f⟩
theorem Bs{S':Wd}(a:eH S b=S'):gt 114 #[bR F,I b] w (ee λw'=>At af F m0 w0 m w' S'):=
 (rm A.bj b S' a).mono λe w' ⟨c,d⟩=>⟨c,A.cont d⟩
end
section
variable(R:bz af F w m S)(aG:Good S)(g:Nat)(x:bI)(hx:S.gs[g]?=x)(td:x.ae=30->x.bA.length<=1000000)(o:cu)(ho:dH S g=o)(bO:eX o.ch)(dj:o.cases.length<=1000)(hk:o.ai=9)
include R aG g x hx td o ho bO dj hk
theorem px{S':Wd}(a:(x.ae=13/\gH S g=(S',true))\/(x.ae=17/\gH S g=(S',true))\/(x.ae=24/\jt S g 25=S')\/(x.ae=31/\jt S g 32=S')\/(x.ae=30/\iH S g=S')\/(x.ae=14/\uF S g=S')\/(x.ae=32/\uG S g=S')\/(x.ae=34/\jK S g=S')):gt 64 #[bR F,I g] w (oV (To af F m w S')):=by
 have r:=bM1;have l:=bM3;have s:=ag R;have t:(o.ai !=9)=false:=cj1
 rcases a with⟨b,a⟩|⟨b,a⟩|⟨b,a⟩|⟨b,a⟩|⟨b,a⟩|⟨b,a⟩|⟨b,a⟩|⟨b,a⟩
 all_goals
  obtain⟨HX,n,j,k⟩:=ia hx ho b aG;have p:Hid (∀x,S.gs[g]?=some x->x.ae=30->x.bA.length<=1000000):=λy hy=>cp9
  have c:=ag a;clear R hx ho b hk aG td a;unfold bR;go_enter func64,ntmps64;go_wp2_with (first|(go_at_call 92;refine(Uq l g HX n dj).mono ?_;rintro e u ⟨⟨v,rfl,jB⟩,A1⟩;obtain⟨ca,cc,rfl⟩:=bV0;have R1:=bR3;have q:=bR4;rw[j.out]at q;obtain⟨c3,z,A⟩:=bK9;have d:=bW8;clear A1 R1 jB)|(go_at_call 105;refine(MT d.out.aI k c).mono ?_;rintro e i ⟨rfl,T⟩;have f:=ag T;clear T)|(go_at_call 112;refine(bk8 d.out.aI c).mono ?_;rintro e i ⟨rfl,T⟩;have f:=ag T;clear T)|(go_at_call 118;refine(D2 d.out.aI (λy hy=>p y hy (by rw[HX.out]at hy;cases hy;exact j)) c).mono ?_;rintro e i ⟨rfl,T⟩;have f:=ag T;clear T)|(go_at_call 119;refine(T1 d.out.aI c).mono ?_;rintro e i ⟨rfl,T⟩;have f:=ag T;clear T)|(go_at_call 120;refine(T2 d.out.aI c).mono ?_;rintro e i ⟨rfl,T⟩;have f:=ag T;clear T)|(go_at_call 122;refine(GB d.out.aI k c).mono ?_;rintro e i ⟨rfl,T⟩;have f:=ag T;clear T));go_ret;exact⟨ii,f⟩
theorem QR(a:x.ae=26)(S1:Wd)(b:rD S g 25 27=S1)(S':Wd)(c:eH S1 g=S'):gt 64 #[bR F,I g] w (oV (To af F m w S')):=by
 have t:=bM1;have i:=bM3;have u:=ag R;have v:(o.ai !=9)=false:=cj1
 obtain⟨HX,j,k,z⟩:=ia hx ho a aG;have A:Hid (∀x,S.gs[g]?=some x->x.ae=30->x.bA.length<=1000000):=λy hy=>cp9
 obtain⟨l,n⟩:=dA b c;clear R hx ho a hk aG td b c;unfold bR;go_enter func64,ntmps64;go_wp2_with (first|(go_at_call 92;refine(Uq i g HX j dj).mono ?_;rintro e B ⟨⟨C,rfl,jB⟩,A1⟩;obtain⟨ca,cc,rfl⟩:=bV0;have R1:=bR3;have p:=bR4;rw[k.out]at p;obtain⟨c3,E,G⟩:=bK9;have q:=bW8;clear A1 R1 jB)|(go_at_call 99;refine(Wc q.out.aI l).mono ?_;rintro e H ⟨rfl,d⟩;have r:=ag d;clear d)|(go_at_call 114;refine(Bs r.out n).mono ?_;rintro e J ⟨rfl,f⟩;have s:=ag f;clear f));go_ret;exact⟨ii,m,s⟩
theorem MU(a:x.ae=33)(S':Wd)(b:Ys S g=(S',false)):gt 64 #[bR F,I g] w (oV (To af F m w S')):=by
 have p:=bM1;have d:=bM3;have q:=ag R;have r:(o.ai !=9)=false:=cj1
 obtain⟨HX,f,i,s⟩:=ia hx ho a aG;have t:Hid (∀x,S.gs[g]?=some x->x.ae=30->x.bA.length<=1000000):=λy hy=>cp9
 have j:=ag b;clear R hx ho a hk aG td b;unfold bR;go_enter func64,ntmps64;go_wp2_with (first|(go_at_call 92;refine(Uq d g HX f dj).mono ?_;rintro e u ⟨⟨v,rfl,jB⟩,A1⟩;obtain⟨ca,cc,rfl⟩:=bV0;have R1:=bR3;have k:=bR4;rw[i.out]at k;obtain⟨c3,z,A⟩:=bK9;have l:=bW8;clear A1 R1 jB)|(go_at_call 121;refine(jb l.out.aI j).mono ?_;rintro e B ⟨rfl,c⟩;have n:=ag c;clear c));go_ret;exact⟨ii,m,n⟩
theorem MV(d:x.ae=33)(S1:Wd)(f:Ys S g=(S1,true))(a:bI)(b:S1.gs[g]?=a):gt 64 #[bR F,I g] w (oV λw'=>To af F m w (S1.ay g {a with ae:=34}) w'):=by
 have A:=bM1;have l:=bM3;have B:=ag R;have C:(o.ai !=9)=false:=cj1
 obtain⟨HX,n,p,E⟩:=ia hx ho d aG;have G:Hid (∀x,S.gs[g]?=some x->x.ae=30->x.bA.length<=1000000):=λy hy=>cp9
 obtain⟨r,i⟩:=dA f b;have s:g<S1.gs.length:=um b;clear R hx ho d hk aG td f b;unfold bR;go_enter func64,ntmps64;go_wp2_with (first|(go_at_call 92;refine(Uq l g HX n dj).mono ?_;rintro e H ⟨⟨J,rfl,jB⟩,A1⟩;obtain⟨ca,cc,rfl⟩:=bV0;have R1:=bR3;have j:=bR4;rw[p.out]at j;obtain⟨c3,K,M⟩:=bK9;have t:=bW8;clear A1 R1 jB)|(go_at_call 121;refine(jb t.out.aI r).mono ?_;rintro e N ⟨rfl,c⟩;have R2:=c.bj;clear j c3;have d3:=R2.eu;have O:=R2.g i 2 _ ii;have u:=bP0;have k:=c.g i {a with ae:=34} (q:=2) (v:=I 34);have z:=ag k;clear c k R2));go_ret;exact⟨ii,m,z⟩
theorem yj(q:o.cases≠[]){S2:Wd}(a:(x.ae=25/\uE S g o=S2)\/(x.ae=27/\jJ S g o=S2)\/(x.ae=28/\ju S g o=S2)\/(x.ae=29/\gK S g o=S2)):gt 64 #[bR F,I g] w (oV (To af F m w S2)):=by
 have E:=bM1;have u:=bM3;have v:=ag R;have G:(o.ai !=9)=false:=cj1
 rcases a with⟨b,a⟩|⟨b,a⟩|⟨b,a⟩|⟨b,a⟩
 all_goals
  obtain⟨HX,z,A,l⟩:=ia hx ho b aG;have H:Hid (∀x,S.gs[g]?=some x->x.ae=30->x.bA.length<=1000000):=λy hy=>cp9
  obtain⟨d,B⟩:=dA a q;clear R hx ho b hk aG td a q;unfold bR;go_enter func64,ntmps64;go_wp2_with (first|(go_at_call 92;refine(Uq u g HX z dj).mono ?_;rintro e J ⟨⟨K,rfl,r⟩,A1⟩;obtain⟨c,cap,f,rfl,s,t⟩:=r.block A1 v cG B;have R1:=bR3;have C:=bR4;rw[A.out]at C;obtain⟨c3,M,N⟩:=bK9;have i:=ag (t.alloc (iD o c cap));have j:=ag s;clear A1 R1 r s t)|(go_at_call 113;refine(TM i.out.aI l g o dj c f sX j cap S2 d).mono ?_;rintro e n ⟨rfl,p,X⟩;have k:=bP7;clear X)|(go_at_call 115;refine(Gy i.out.aI l g o c f sX j cap S2 d).mono ?_;rintro e n ⟨rfl,p,X⟩;have k:=bP7;clear X)|(go_at_call 116;refine(D1 i.out.aI l g o c f sX j cap S2 d).mono ?_;rintro e n ⟨rfl,p,X⟩;have k:=bP7;clear X)|(go_at_call 117;refine(QP i.out.aI g o c f sX j cap S2 d).mono ?_;rintro e n ⟨rfl,p,X⟩;have k:=bP7;clear X));go_ret;exact⟨ii,ss k⟩
end
theorem D3{α:Type}:idx ([]:List α) Y=none:=by unfold idx;split<;>simp
theorem Jy(R:bz af F w m S)(i:Good S)(g:Nat)(d:∀x,S.gs[g]?=some x->x.ae=30->x.bA.length<=1000000)(p:∀x,S.gs[g]?=some x->x.ae=28->(dH S g).cases≠[])(S':Wd)(b:aS7 S g=(S',true)):gt 64 #[F.aQ,I g] w (oV (To af F m w S')):=by
 unfold aS7 at b;simp only[bW,cI]at b;obtain⟨o,q,x,e,b⟩:=b;obtain⟨f,j,k⟩:=nB q;have d:=d x e;by_cases c:o.ai≠9
 .rw[aF c]at b
  cases b
 rw[aE c]at b;have c:o.ai=9:=oX
 by_cases a:x.ae=13\/x.ae=17
 .rw[aF a]at b;rcases a with a|a
  .exact px R i g x e d o f j k c (.inl ⟨a,b⟩)
  exact px R i g x e d o f j k c (.inr (.inl ⟨a,b⟩))
 rw[aE a]at b;by_cases a:x.ae=24
 .rw[aF a]at b;exact px R i g x e d o f j k c (.inr (.inr (.inl ⟨a,(dS b).1⟩)))
 rw[aE a]at b;by_cases a:x.ae=25
 .rw[aF a]at b;have hn:=(dS b).1;by_cases cM:o.cases=[]
  .exfalso;unfold uE at hn;exact cc1
  exact yj R i g x e d o f j k c cM (.inl ⟨a,hn⟩)
 rw[aE a]at b;by_cases a:x.ae=26
 .rw[aF a]at b;have hn:=(dS b).1;simp only[cI]at hn;obtain⟨S1,l,n⟩:=hn;exact QR R i g x e d o f j k c a S1 l _ n
 rw[aE a]at b;by_cases a:x.ae=27
 .rw[aF a]at b;have hn:=(dS b).1;by_cases cM:o.cases=[]
  .exfalso;unfold jJ at hn;exact cc1
  exact yj R i g x e d o f j k c cM (.inr (.inl ⟨a,hn⟩))
 rw[aE a]at b;by_cases a:x.ae=28
 .rw[aF a]at b;have hn:=(dS b).1;have cM:o.cases≠[]:=by rw[<-f];exact p x e a
  exact yj R i g x e d o f j k c cM (.inr (.inr (.inl ⟨a,hn⟩)))
 rw[aE a]at b;by_cases a:x.ae=29
 .rw[aF a]at b;have hn:=(dS b).1;by_cases cM:o.cases=[]
  .exfalso;unfold gK at hn;exact cc1
  exact yj R i g x e d o f j k c cM (.inr (.inr (.inr ⟨a,hn⟩)))
 rw[aE a]at b;by_cases a:x.ae=30
 .rw[aF a]at b;exact px R i g x e d o f j k c (.inr (.inr (.inr (.inr (.inl ⟨a,(dS b).1⟩)))))
 rw[aE a]at b;by_cases a:x.ae=14
 .rw[aF a]at b;exact px R i g x e d o f j k c (.inr (.inr (.inr (.inr (.inr (.inl ⟨a,(dS b).1⟩))))))
 rw[aE a]at b;by_cases a:x.ae=31
 .rw[aF a]at b;exact px R i g x e d o f j k c (.inr (.inr (.inr (.inl ⟨a,(dS b).1⟩))))
 rw[aE a]at b;by_cases a:x.ae=32
 .rw[aF a]at b;exact px R i g x e d o f j k c (.inr (.inr (.inr (.inr (.inr (.inr (.inl ⟨a,(dS b).1⟩)))))))
 rw[aE a]at b;by_cases a:x.ae=33
 .rw[aF a]at b;simp only[cI]at b;obtain⟨⟨S1,n⟩,l,b⟩:=b
  cases n with
  |true=>
   simp only[dt]at b;obtain⟨r,s,rfl⟩:=Nb (dS b).1;exact MV R i g x e d o f j k c a S1 l r s
  |false=>
   simp only[nW,dF,oZ,aS3,at6]at b;subst b;exact MU R i g x e d o f j k c a S1 l
 rw[aE a]at b;by_cases a:x.ae=34
 .rw[aF a]at b;exact px R i g x e d o f j k c (.inr (.inr (.inr (.inr (.inr (.inr (.inr ⟨a,(dS b).1⟩)))))))
 rw[aE a]at b
 cases b
end
section
variable{af g eb:Nat}{F:Fx}{w w0:World}{m m0:Mem}{S:Wd}{L:List (Nat×Obj)}
def TB(af:Nat)(F:Fx)(m0:Mem)(w0:World)(S:Wd)(L:List (Nat×Obj))(w:World):Prop:=∃m,AB af F m0 w0 m w S L
theorem TB.av(T:TB af F m0 w0 S L w){f:Nat}{args:dl}{S':Wd}{v:Value}(h:∀m,bz af F w m S->Calls prog f args w λe w'=>e=v/\To af F m w S' w'):Calls prog f args w λe w'=>e=v/\TB af F m0 w0 S' L w':=by
 obtain⟨m,X⟩:=T;exact(h m X.bj).mono λe w' ⟨a,D,b⟩=>⟨a,D,X.av b⟩
theorem TB.same(T:TB af F m0 w0 S L w){args:dl}{v:Value}(h:∀m,bz af F w m S->Calls prog b args w λe w'=>e=v/\w=w'):Calls prog b args w λe w'=>e=v/\TB af F m0 w0 S L w':=by
 obtain⟨m,X⟩:=T;exact(h m X.bj).mono λe w' ⟨a,c⟩=>⟨a,m,c▸X⟩
theorem TB.heap(T:TB af F m0 w0 S L w)(a:w'.heap=w.heap)(b:w'.os=w.os)(c:w'.tape=w.tape)(d:w'.output=w.output):TB af F m0 w0 S L w':=by
 obtain⟨m,X⟩:=T;exact⟨m,X.aI a b c d⟩
structure Cp(S:Wd)(g:Nat):Prop where
 aG:Good S
 o:zP S g
 bA:∀x,S.gs[g]?=some x->x.ae=30->x.bA.length<=1000000
 cs:∀x,S.gs[g]?=some x->x.ae=28->(dH S g).cases≠[]
 ax:S.ax.length<=1000
 av: -1000000000<=S.av/\S.av<=1000000000
theorem AB.GC(X:AB af F m0 w0 m w S L):AB af F m0 w0 m (w.setCell (F.aQ,2) Y) {S with av:=Y} L:=by
 refine⟨X.at_.av Y,λp a=>⟨?_,(X.loc p a).2⟩⟩;rw[fQ (λe=>(X.loc p a).2 .aQ (by rw[e];exact X.bj.aB.aQ))];exact(X.loc p a).1
def jS(F:Fx)(eb:Nat)(L:List (Nat×Obj)):Prop:=(eb,.cells #[F.aQ] 78)∈L
theorem jS.cell(h:jS F eb L)(X:AB af F m0 w0 m w S L):w.cell? eb=some (.pointer F.aQ):=by
 rw[al7 w eb 0 _ _ _ (X.loc _ h).1];rfl
section
variable(h:jS F eb L)(X:AB af F m0 w0 m w S L)
include h X
theorem jS.ne:F.aQ≠eb:=λe=>(X.loc _ h).2 .aQ (by rw[<-e];exact X.bj.aB.aQ)
theorem jS.lt:eb<w:=(dh (X.loc _ h).1).1
end
theorem Jz(R:bz af F w m S)(f:zP S g)(S':Wd)(a:gh S g=(S',true)):gt 60 #[F.aQ,I g] w (oV (To af F m w S')):=by
 unfold gh at a;simp only[bW,cI]at a;obtain⟨x,b,a⟩:=a;by_cases c:x.ae=0
 .rw[aF c]at a;exact TQ R f x b c S' (dS a).1
 rw[aE c]at a;by_cases d:x.ae=20
 .rw[aF d]at a;exact Qx R f x b d S' (dS a).1
 rw[aE d]at a;by_cases e:x.ae=18
 .rw[aF e]at a;exact Qy R x b e S' (dS a).1
 rw[aE e]at a
 cases a
section
variable(X:AB af F m0 w0 m w S L)(he:jS F eb L)(jf:bU S.ax g=0)(hn: -1000000000<=S.av/\S.av<=1000000000)(S1:Wd)
include X he jf hn S1
theorem af5(Ci:S1={S with av:=S.av+1})(a:zP S1 g)(d:gh S1 g=(S',true)):gt 30 #[eb,I g] w (oV (TB af F m0 w0 S' L)):=by
 obtain⟨l,n,el,R⟩:=bK5;obtain⟨c4,f2,f,c2,o⟩:=bK2;rw[jf]at f;have i:Hid (TB af F m0 w0 S1 L (w.setCell (F.aQ,2) (I (S.av+1)))):=⟨m,cu5⟩;have b:=ag a;have c:=ag d;clear X R he jf Ci a d;go_enter func30,ntmps30;go_wp2_with (first|(go_at_call 50;refine f.out.mono ?_;rintro e p ⟨rfl,rfl⟩)|(go_at_call 60;refine(TB.av (S:=S1) (i.out.heap ii ii ii ii) (λm R=>Jz R b S' c)).mono ?_;rintro e j ⟨rfl,T⟩;have k:=ag T;clear T));go_ret;exact⟨ii,k⟩
theorem af6(Ci:S1={S with av:=S.av+1})(x:bI)(c:S1.gs[g]?=x)(d:x.ae≠0/\x.ae≠20/\x.ae≠18)(o:cu)(f:dH S1 g=o)(u:o.cases.length<=1000)(i:Good S1)(j:jq S1 g=(S',true)):gt 30 #[eb,I g] w (oV (TB af F m0 w0 S' L)):=by
 obtain⟨v,y,el,R⟩:=bK5;obtain⟨c4,f2,k,c2,z⟩:=bK2;rw[jf]at k;have l:Hid (TB af F m0 w0 S1 L (w.setCell (F.aQ,2) (I (S.av+1)))):=⟨m,cu5⟩;have n:=ag c;have a:=ag d;have A:=ag f;have p:=ag i;have b:=ag j;clear X R he jf Ci c d f i j;go_enter func30,ntmps30;go_wp2_with (first|(go_at_call 50;refine k.out.mono ?_;rintro e B ⟨rfl,rfl⟩)|(go_at_call 60;refine(TB.same (S:=S1) (l.out.heap ii ii ii ii) (λm R=>vp R x n a)).mono ?_;rintro e q ⟨rfl,T⟩;have r:=ag T;clear T)|(go_at_call 61;refine(TB.av (S:=S1) (r.out.heap ii ii ii ii) (λm R=>Jk R p g S' true b)).mono ?_;rintro e s ⟨rfl,T⟩;have t:=ag T;clear T));go_ret;exact⟨ii,t⟩
theorem af7(Ci:S1={S with av:=S.av+1})(x:bI)(c:S1.gs[g]?=x)(d:x.ae≠0/\x.ae≠20/\x.ae≠18)(o:cu)(f:dH S1 g=o)(p:o.cases.length<=1000)(i:o.ai≠2/\o.ai≠4)(j:Good S1)(k:jr S1 g=(S',true)):gt 30 #[eb,I g] w (oV (TB af F m0 w0 S' L)):=by
 obtain⟨C,E,el,R⟩:=bK5;obtain⟨c4,f2,l,c2,G⟩:=bK2;rw[jf]at l;have q:Hid (TB af F m0 w0 S1 L (w.setCell (F.aQ,2) (I (S.av+1)))):=⟨m,cu5⟩;have n:=ag c;have a:=ag d;have r:=ag f;have s:=ag i;have t:=ag j;have b:=ag k;clear X R he jf Ci c d f i j k;go_enter func30,ntmps30;go_wp2_with (first|(go_at_call 50;refine l.out.mono ?_;rintro e H ⟨rfl,rfl⟩)|(go_at_call 60;refine(TB.same (S:=S1) (q.out.heap ii ii ii ii) (λm R=>vp R x n a)).mono ?_;rintro e u ⟨rfl,T⟩;have v:=ag T;clear T)|(go_at_call 61;refine(TB.av (S:=S1) (v.out.heap ii ii ii ii) (λm R=>vm R g x n o r p s)).mono ?_;rintro e y ⟨rfl,T⟩;have z:=ag T;clear T)|(go_at_call 62;refine(TB.av (S:=S1) (z.out.heap ii ii ii ii) (λm R=>Ju R t g S' b)).mono ?_;rintro e A ⟨rfl,T⟩;have B:=ag T;clear T));go_ret;exact⟨ii,B⟩
theorem af8(Ci:S1={S with av:=S.av+1})(x:bI)(d:S1.gs[g]?=x)(f:x.ae≠0/\x.ae≠20/\x.ae≠18)(o:cu)(i:dH S1 g=o)(j:o.cases.length<=1000)(k:(o.ai≠2/\o.ai≠4)/\(o.ai≠3/\o.ai≠5))(l:Good S1)(n:js S1 g=(S',true)):gt 30 #[eb,I g] w (oV (TB af F m0 w0 S' L)):=by
 obtain⟨G,H,el,R⟩:=bK5;obtain⟨c4,f2,p,c2,J⟩:=bK2;rw[jf]at p;have s:Hid (TB af F m0 w0 S1 L (w.setCell (F.aQ,2) (I (S.av+1)))):=⟨m,cu5⟩;have a:=ag d;have b:=ag f;have q:=ag i;have r:=ag k;have t:=ag l;have c:=ag n;clear X R he jf Ci d f i k l n;go_enter func30,ntmps30;go_wp2_with (first|(go_at_call 50;refine p.out.mono ?_;rintro e K ⟨rfl,rfl⟩)|(go_at_call 60;refine(TB.same (S:=S1) (s.out.heap ii ii ii ii) (λm R=>vp R x a b)).mono ?_;rintro e u ⟨rfl,T⟩;have v:=ag T;clear T)|(go_at_call 61;refine(TB.av (S:=S1) (v.out.heap ii ii ii ii) (λm R=>vm R g x a o q j r.out.1)).mono ?_;rintro e y ⟨rfl,T⟩;have z:=ag T;clear T)|(go_at_call 62;refine(TB.av (S:=S1) (z.out.heap ii ii ii ii) (λm R=>Gw R g x a o q j r.out.2)).mono ?_;rintro e A ⟨rfl,T⟩;have B:=ag T;clear T)|(go_at_call 63;refine(TB.av (S:=S1) (B.out.heap ii ii ii ii) (λm R=>Jv R t g S' c)).mono ?_;rintro e C ⟨rfl,T⟩;have E:=ag T;clear T));go_ret;exact⟨ii,E⟩
theorem af9(Ci:S1={S with av:=S.av+1})(x:bI)(q:S1.gs[g]?=x)(r:x.ae≠0/\x.ae≠20/\x.ae≠18)(o:cu)(s:dH S1 g=o)(d:o.cases.length<=1000)(t:(o.ai≠2/\o.ai≠4)/\(o.ai≠3/\o.ai≠5)/\o.ai≠6)(u:Good S1)(a:∀x,S1.gs[g]?=some x->x.ae=30->x.bA.length<=1000000)(b:∀x,S1.gs[g]?=some x->x.ae=28->(dH S1 g).cases≠[])(v:aS7 S1 g=(S',true)):gt 30 #[eb,I g] w (oV (TB af F m0 w0 S' L)):=by
 obtain⟨O,Q,el,R⟩:=bK5;obtain⟨c4,f2,y,c2,U⟩:=bK2;rw[jf]at y;have z:Hid (TB af F m0 w0 S1 L (w.setCell (F.aQ,2) (I (S.av+1)))):=⟨m,cu5⟩;have c:=ag q;have f:=ag r;have i:=ag s;have j:=ag t;have A:=ag u;have k:=ag a;have l:=ag b;have n:=ag v;clear X R he jf Ci q r s t u a b v;go_enter func30,ntmps30;go_wp2_with (first|(go_at_call 50;refine y.out.mono ?_;rintro e W ⟨rfl,rfl⟩)|(go_at_call 60;refine(TB.same (S:=S1) (z.out.heap ii ii ii ii) (λm R=>vp R x c f)).mono ?_;rintro e B ⟨rfl,T⟩;have C:=ag T;clear T)|(go_at_call 61;refine(TB.av (S:=S1) (C.out.heap ii ii ii ii) (λm R=>vm R g x c o i d j.out.1)).mono ?_;rintro e E ⟨rfl,T⟩;have G:=ag T;clear T)|(go_at_call 62;refine(TB.av (S:=S1) (G.out.heap ii ii ii ii) (λm R=>Gw R g x c o i d j.out.2.1)).mono ?_;rintro e H ⟨rfl,T⟩;have J:=ag T;clear T)|(go_at_call 63;refine(TB.av (S:=S1) (J.out.heap ii ii ii ii) (λm R=>QK R g x c o i d j.out.2.2)).mono ?_;rintro e K ⟨rfl,T⟩;have p:=ag T;clear T)|(go_at_call 64;refine(TB.av (S:=S1) (p.out.heap ii ii ii ii) (λm R=>Jy R A g k l S' n)).mono ?_;rintro e M ⟨rfl,T⟩;have N:=ag T;clear T));go_ret;exact⟨ii,N⟩
end
end
def uj(S1:Wd)(g:Nat)(a:Wd):Prop:=
 gh S1 g=(a,true)\/∃x o,S1.gs[g]?=some x/\(x.ae≠0/\x.ae≠20/\x.ae≠18)/\mf S1 g=some o/\
  ((o.ai=2\/o.ai=4)/\jq S1 g=(a,true)\/(o.ai=3\/o.ai=5)/\jr S1 g=(a,true)\/o.ai=6/\js S1 g=(a,true)\/o.ai=9/\aS7 S1 g=(a,true))
section
variable{af eb:Nat}{F:Fx}{w w0:World}{m m0:Mem}{S:Wd}{L:List (Nat×Obj)}
theorem GD(X:AB af F m0 w0 m w S L)(c:jS F eb L)(d:bU S.ax cp=0)(e: -1000000000<=S.av/\S.av<=1000000000)(b:Cp {S with av:=S.av+1} cp)(a:uj {S with av:=S.av+1} cp S'):gt 30 #[eb,I cp] w (oV (TB af F m0 w0 S' L)):=by
 rcases a with a|⟨x,o,f,i,n,a⟩
 .exact af5 X c d e _ ii b.o a
 obtain⟨j,p,k⟩:=nB n;rcases a with⟨l,a⟩|⟨l,a⟩|⟨l,a⟩|⟨l,a⟩
 .exact af6 X c d e _ ii x f i o j k b.aG a
 .exact af7 X c d e _ ii x f i o j k oX b.aG a
 .exact af8 X c d e _ ii x f i o j k oX b.aG a
 exact af9 X c d e _ ii x f i o j k oX b.aG b.bA b.cs a
theorem JA(X:AB af F m0 w0 m w S L)(a:S.ax.length<=1000):gt 59 #[F.dB] w (vH w (cE S.ax)):=DK X.bj a
section
variable(X:AB af F m0 w0 m w S L)(he:jS F eb L)(hb:S.ax.length<=1000)
include X he hb
theorem pT:gt 28 #[eb] w (vH w (cE S.ax)):=by
 have i:=he.cell X;have R:=bP5;have c4:=R.nJ;have j:=bO9;have c:=ag (JA X hb);clear X R he;go_enter func28,ntmps28;go_wp2_with (go_at_call 59;go_loud (refine c.out.mono ?_;rintro e k ⟨v,rfl,b,a⟩;obtain⟨d,f⟩:=dA b a;clear b a));go_ret;exact⟨_,ii,d,f⟩
theorem JB(b:Int)(f:cE S.ax=[]):gt 25 #[eb,b] w (eL (I (-1)) (TB af F m0 w0 S L)):=by
 have k:=bP7;have i:=ag (pT X he hb);rw[f]at i;clear X he f;go_enter func25,ntmps25;go_wp2_with (go_at_call 28;refine i.out.mono ?_;rintro e n ⟨v,rfl,j,d⟩;obtain⟨a,c,rfl⟩:=qo j;have l:=ag d;clear j d);go_ret;exact⟨ii,m,k.out.below l⟩
theorem zZ(d:Int)(E: -9223372036854775808<=d/\d<=9223372036854775807)(l:ce)(q:l=cE S.ax)(t:l≠[])(p:pA l d=cp)(u:bU S.ax cp=0)(A: -1000000000<=S.av/\S.av<=1000000000)(x:Cp {S with av:=S.av+1} cp)(y:uj {S with av:=S.av+1} cp S'):gt 25 #[eb,d] w (eL (I cp) (TB af F m0 w0 S' L)):=by
 have HX:=bP7;have HB:=ag (pT X he hb);rw[<-q]at HB;have B:l.length<=1000:=by rw[q];have:=xg S.ax 0;unfold cE;omega
 have j:0<l.length:=pd t;obtain⟨n,f⟩:∃n,n=l.length:=⟨_,ii⟩;obtain⟨i,z⟩:∃i:Nat,(d % (n:Int))=i:=pz (as1 _ oX);have hin:i<n:=by have:=aj7 d (b:=(n:Int)) oX;omega
 have k:l.getD i 0=cp:=by unfold pA at p;rw[<-f,z]at p;simpa using p
 obtain⟨hN,HG⟩:=dA f k;have HO:Hid (∀w',AB af F m0 w0 m w' S L->gt 30 #[eb,I cp] w' λe w'=>e=Value.bool true/\TB af F m0 w0 S' L w'):=λw' Y=>GD Y he u A x y
 have r:(0<=Int.tmod d n/\Int.tmod d n=i)\/(Int.tmod d n<0/\Int.tmod d n+n=i):=cp2
 rw[<-f]at B j;have G:((n:Int)==0)=false:=ci8
 clear X he t q p u x y f z k;rcases r with⟨o,s⟩|⟨o,s⟩
 .have C:decide (Int.tmod d n<0)=false:=by simp;omega
  have H:decide ((i:Int)<0)=false:=sX
  exact ca2
 have C:decide (Int.tmod d n<0)=true:=by simpa using o
 exact ca2
end
end
namespace V
structure QT(w w':Wd)(g:Nat)(x:bI):Prop where
 ops:w'.gs.map (·.ops)=w.gs.map (·.ops)
 av:w'.av=w.av+1
 list:w'.list=w.list
 drawn:w.drawn<=w'.drawn/\(w'.drawn<=w.drawn\/w'.drawn<=w.list)
 done:w'.done=w.done\/x.ae=18/\w'.done=w.done++[qu x g (w.av+1)]
 au:w.au<=w'.au.length
section
variable{w2:Wd}{ls:ap}{g s:Nat}{x y:bI}{o:cu}
theorem JC{p:Int}(h:bG Y p)(hk:Y=1\/Y=7\/Y=8)(a:0<=p/\p<=34):p=0\/p=18\/p=20:=by
 obtain⟨n,rfl⟩:=pz a.1;have key:∀n:Fin 35,∀Y∈([1,7,8]:ce),bG Y ((n:Nat):Int)=true->(n:Nat)=0\/(n:Nat)=18\/(n:Nat)=20:=dX
 have:=key ⟨n,oX⟩ Y cn9 h;simp only at this;omega
theorem QU(I:Inv t ls)(hx:t.gs[g]?=x)(G:Na t g)(H:0<=t.drawn)(B:kJ t.drawn)(D:t.done.length<1000000):∃r l,uj {t with av:=t.av+1} g r/\Inv r l/\QT t r g x:=by
 have n:Inv {t with av:=t.av+1} ls:=I.same ii ii ii ii ii ii ii ii;have i:({t with av:=t.av+1}:Wd).gs[g]?=x:=hx;have u:Na {t with av:=t.av+1} g:=G;have L:=bT4;have F:∀{E:Wd},wE {t with av:=t.av+1} E->QT t E g x:=λK=>⟨K.ops,K.av,K.list,K.drawn,.inl K.done,K.au⟩
 by_cases j:x.ae=0
 .obtain⟨E,a,b,c⟩:=Mp n i u j H B;refine⟨E,ls,.inl ?_,b,F c⟩;unfold gh;simp only[hx,bW,eN];rw[aF j];exact nN a
 by_cases p:x.ae=20
 .obtain⟨E,a,b,c⟩:=WI n i u p;refine⟨E,ls,.inl ?_,b,F c⟩;unfold gh;simp only[hx,bW,eN];rw[aE j,aF p];exact nN a
 by_cases q:x.ae=18
 .obtain⟨E,a,b,c1,c2,c3,c4,f,m⟩:=F0 n i u q D;refine⟨E,ls,.inl ?_,b,c1,c2,c3,by rw[c4];exact⟨ae1 _,.inl (ae1 _)⟩,.inr ⟨q,f⟩,at4 m.symm⟩;unfold gh;simp only[hx,bW,eN];rw[aE j,aE p,aF q];exact nN a
 have J:x.ae≠19:=λh=>by obtain⟨f,M⟩:=G;have:=(I.st g x 0 f hx M).2.2.2.2.1 h;omega
 obtain⟨v,N⟩:=pj n i j;have S:=N.k;have T:=L.kp j;have U:=L.pl;have Q:(aP x).ai=1\/(aP x).ai=7\/(aP x).ai=8->False:=λh=>by grind [JC]
 have m:∀{E:Wd} {l:ap},Inv E l->bK {t with av:=t.av+1} E->uj {t with av:=t.av+1} g E->∃r l,uj {t with av:=t.av+1} g r/\Inv r l/\QT t r g x:=λb c d=>⟨_,_,d,b,F c.d⟩
 have A:x.ae≠0/\x.ae≠18/\x.ae≠19/\x.ae≠20:=⟨j,q,J,p⟩;have R:((aP x).ai=2\/(aP x).ai=4)\/((aP x).ai=3\/(aP x).ai=5)\/(aP x).ai=6\/(aP x).ai=9:=cp2
 rcases R with k|k|k|k
 .obtain⟨E,l,a,b,c⟩:=DO n i u k A;exact m b c (.inr ⟨x,_,i,⟨j,p,q⟩,v,.inl ⟨k,a⟩⟩)
 .obtain⟨E,l,a,b,c⟩:=DP n i u k A;exact m b c (.inr ⟨x,_,i,⟨j,p,q⟩,v,.inr (.inl ⟨k,a⟩)⟩)
 .obtain⟨E,l,a,b,c⟩:=DQ n i u k A;exact m b c (.inr ⟨x,_,i,⟨j,p,q⟩,v,.inr (.inr (.inl ⟨k,a⟩))⟩)
 obtain⟨E,l,a,b,c⟩:=zw n i u k A;exact m b c (.inr ⟨x,_,i,⟨j,p,q⟩,v,.inr (.inr (.inr ⟨k,a⟩))⟩)
end
end V
structure T6(N:Nat)(P:Nat->Wd->Prop):Prop where
 ax:∀k S,P k S->S.ax.length<=1000
 av:∀k S,P k S-> -1000000000<=S.av/\S.av<=1000000000
 who:∀k S g,P k S->g∈cE S.ax->∃j:Nat,g=j/\bU S.ax g=0
 aG:∀k S (g:Nat),P k S->k<N->bU S.ax g=0->Cp {S with av:=S.av+1} g
section
variable{af g eb:Nat}{F:Fx}{w0:World}{m0:Mem}{S:Wd}{L:List (Nat×Obj)}
theorem vt{l:ce}(d:l≠[])(a:Int):pA l a∈l:=by
 unfold pA;have c:0<l.length:=pd d;have e:=as1 a (b:=(l.length:Int)) oX;have f:=aj7 a (b:=(l.length:Int)) oX;grind
section
variable{P:Nat->Wd->Prop}(G:T6 cp P)(T:TB af F m0 w0 S L v)(he:jS F eb L)
include G T he
theorem MX(c:P b S)(h:b<cp)(a:Int)(i: -9223372036854775808<=a/\a<=9223372036854775807)(f:cE S.ax≠[])(j:∀g:Nat,pA (cE S.ax) a=g->∃S',uj {S with av:=S.av+1} g S'/\P (b+1) S'):∃(g:Nat) (S':Wd),pA (cE S.ax) a=g/\P (b+1) S'/\gt 25 #[eb,a] v (eL (I g) (TB af F m0 w0 S' L)):=by
 obtain⟨D,X⟩:=T;obtain⟨g,d,e⟩:=G.who b S _ c (vt f a);rw[d]at e;obtain⟨S',k,l⟩:=j g d;exact⟨g,S',d,l,zZ X he (G.ax b S c) a i _ ii f d e (G.av b S c) (G.aG b S g c h e) k⟩
theorem MY(E:P 0 S)(l:ce)(n:Nat)(x:n=l)(hN:n<=cp)(O:n<=1000000)(a:am)(c:Nat)(o:∀z∈l,-9223372036854775808<=z/\z<=9223372036854775807)(H:∀W:World,(∀p∈L,W.heap[p.1]?=p.2)->Rd .i64 W a l)(J:∀k S z,P k S->l[k]?=some z->cE S.ax≠[]->∀g:Nat,pA (cE S.ax) z=g->∃S',uj {S with av:=S.av+1} g S'/\P (k+1) S'):gt 9 #[eb,(a,n,c)] v λe w'=>(∃q,e=I q)/\∃k S',P k S'/\(k=n\/cE S'.ax=[])/\TB af F m0 w0 S' L w':=by
 have R:Hid (∀k S v z,P k S->l[k]?=some z->cE S.ax≠[]->TB af F m0 w0 S L v->∃(g:Nat) (S':Wd),pA (cE S.ax) z=g/\P (k+1) S'/\gt 25 #[eb,I z] v (eL (I g) λw'=>TB af F m0 w0 S' L w')):=by
  intro k S v z s t i T;have hk:k<n:=by rw[x];exact(um t)
  exact MX G T he s oX z (o z (lf t)) i (J k S z s t i)
 have y:Hid (∀k S v z,P k S->cE S.ax=[]->TB af F m0 w0 S L v->gt 25 #[eb,I z] v λe w'=>e=I (-1)/\TB af F m0 w0 S L w'):=λk S v z s i ⟨D,X⟩=>JB X he (G.ax k S s) z i
 have HN:=ag x;have U:Hid (∀S v,TB af F m0 w0 S L v->Rd .i64 v a l):=λS v ⟨D,X⟩=>H v λp Y=>(X.loc p Y).1
 have r:Hid (∃S',P 0 S'/\TB af F m0 w0 S' L v):=⟨S,E,T⟩;clear G T he E x o H J;go_enter func9,ntmps9;go_wp2;go_loopw [9] (λq wr=>∃j:Nat,q=.int .i64 j/\j<=n/\Hid (∃S',P j S'/\TB af F m0 w0 S' L wr)) (λq _=>n-(intOf q).toNat)
 case atStart=>exact⟨0,ii,oX,r⟩
 clear r;obtain⟨j,rfl,hj,r⟩:=hrel;by_cases dD:j<n
 .obtain⟨S1,d,f⟩:=r.out;obtain⟨b,off,rfl,Z⟩:=(U S1 wr f).at j cn4;obtain⟨z,o⟩:=dC (l.getD j 0);rw[<-o]at Z;have A:l[j]?=some z:=by rw[o,c9X,fv cn4];rfl
  by_cases i:cE S1.ax=[]
  .have B:=ag (y.out j S1 wr z d i f);have u:=ag d;have C:=ag i;clear r d f o A i;go_wp2_with (go_at_call 25;refine B.out.mono ?_;rintro e K ⟨rfl,T⟩;have M:=ag T;clear T);go_ret;exact⟨⟨_,ii⟩,j,S1,u,.inr C,M⟩
  obtain⟨g,S2,hg,u,M⟩:=R.out j S1 wr z d A i f;have B:=ag M;have Sh:decide ((g:Int)<0)=false:=sX
  have En:=ag u;clear r d f o A i M hg u;go_wp2_with (go_at_call 25;refine B.out.mono ?_;rintro e K ⟨rfl,T⟩;have C:Hid (∃S',P (j+1) S'/\TB af F m0 w0 S' L K):=⟨S2,En,T⟩;clear T);go_roundw
  case rel=>exact⟨j+1,cj8,oX,C⟩
  simp[intOf];omega
 obtain rfl:j=n:=oX
 go_wp2;go_ret;obtain⟨S1,s,t⟩:=r.out;exact⟨⟨_,ii⟩,j,S1,s,.inl rfl,t⟩
end
end
namespace V
section
variable{w2:Wd}{ls:ap}{g s:Nat}{x y:bI}{o:cu}
theorem GF(I:Inv t ls)(d:t.gs[g]?=x):x.OK.length<=8:=by
 have:=jy 8 (x.OK.map λz=>z.toNat) ?_ ?_
 .grind
 .refine ak0.2 ((I.pg g x d).imp_of_mem λ{a b} f h i c=>?_);obtain⟨j,_,_,rfl,_⟩:=I.jn g x a d f;obtain⟨k,_,_,rfl,_⟩:=I.jn g x b d h;omega
 intro y c;obtain⟨z,f,rfl⟩:=ak3.1 c;obtain⟨j,u,_,rfl,h,_⟩:=I.jn g x z d f;grind [Inv.n8]
theorem T7(I:Inv t ls):Good t:=
 ⟨I.Eg.ok,I.Eg.aC,λi r h=>I.au r (lf h),λg x h=>by have:=GF I h;omega,I.aO⟩
theorem QV(I:Inv t ls)(m:∀v∈t.list,0<=v/\v<=65535)(n:0<=t.drawn/\t.drawn<=100000)(p:eX t.av):Cp t g:=by
 refine⟨T7 I,⟨I.aq,I.aO,m,n,λx hx f=>?_,λx hx f=>?_⟩,λx hx f=>?_,λx hx f=>?_,?_,p⟩
 .have L:=bT4;refine⟨L.JY.1,?_⟩;by_cases h:x.at_<x.ops.length
  .rw[qd hx];exact .inl (L.ops _ (DI L.JY.1 h)).k
  exact .inr oX
 .have L:=bT4;have j:=bU4;grind [qd,bG]
 .have L:=bT4;by_cases hk:(aP x).ai=9
  .obtain⟨a,b,c⟩:=bT1;have d:=L.ops _ (DI L.JY.1 (L.Uy oX));have:=d.cl;by_cases q:x.ae=24\/x.ae=25\/x.ae=26\/x.ae=27\/(x.ae=30/\(x.res.aJ=1\/x.res.aJ=2\/x.res.aJ=3))
   .rw[c.none_ q];simp
   grind [nm.len]
  rw[L.yC hk];simp
 .have L:=bT4;have j:=bU4;rw[f]at j;have hk:(aP x).ai=9:=by simpa[bG]using j
  obtain⟨a,b,c⟩:=bT1;rw[qd hx];intro d;obtain⟨i,l,q⟩:=List.exists_cons_of_ne_nil a.ne;obtain⟨_,r,u,_⟩:=a.ord i (by rw[q];simp);grind
 grind [Inv.ax,Inv.n8]
end
structure aY4(p:be):Prop where
 len:p.length<=8
 row:∀l∈p,l.length<=16
 ops:∀l∈p,∀o∈l,Vz o
def uk(p:be)(C:Nat)(m:Ex):Prop:=
 ∃(g j:Nat) (l:go) (o:cu),m.g=g/\m.op=j/\p[g]?=l/\l[j]?=o/\(o.ai≠9->m.res.case= -1/\m.fire= -1)/\
  (o.ai=9->(m.res.aJ=1\/m.res.aJ=3)/\m.fire=m.res.case/\0<=m.res.case/\(∃c,o.cases[m.res.case.toNat]?=some c/\1<=c.ch/\c.ch<=C/\(m.res.aJ=3->c.cF))\/
   m.res.aJ=2/\o.dG/\m.res.case= -1\/m.res.aJ=6/\o.dG=false/\m.lQ=0)
def jQ(l:go):bI:={ops:=l,aN:= -1,bY:= -1,br:= -1,bF:= -1,fire:= -1,res:={case:= -1}}
def gj(p:be)(N:Nat)(most:Int)(a:ce):Wd:=
 {dV:=N,eT:=most,av:=0,gs:=p.map jQ,ax:=List.replicate p (0,false),au:=[],aO:=[],aq:=[],ef:={aS:=List.replicate N {},bM:=List.replicate 16 {}},
  ah:=List.replicate N {},Eg:={size:=N,most:=most,aC:=List.replicate p [],aK:=[],cO:=0,bV:=List.replicate N false},list:=a,drawn:=0,UB:=a,done:=[]}
structure Row(p:be)(UB:ce)(k:Nat)(S:Wd):Prop where
 inv:∃ls,Inv S ls
 av:S.av=k
 most:k<=900000
 drawn:0<=S.drawn/\S.drawn<=UB
 list:S.list=UB
 ops:S.gs.map (·.ops)=p
 len:S.done<=k
 marks:∀m∈S.done,uk p S.au m
section
variable{w2 S:Wd}{ls:ap}{g s k:Nat}{x y:bI}{o:cu}{p:be}{UB:ce}
theorem uk.more{m:Ex}(h:uk p cp m)(n:cp<=b):uk p b m:=by
 obtain⟨g,j,l,o,a,c,d,f,i,q⟩:=h;refine⟨g,j,l,o,a,c,d,f,i,λr=>?_⟩;grind
theorem QW{l:go}(a:l.length<=16)(b:∀o∈l,Vz o):Loc cp (jQ l):=by
 refine{JY:=⟨ae1 0,?_,a⟩,ops:=b,Uy:=λh=>aX ii h,kp:=λh=>aX ii h,pl:=⟨by simp[jQ],by simp[jQ]⟩,begin:=λ_=>⟨ii,ii,ii,ii,ii,ii,ii,ii,ii,ii⟩,cZ:=λ_ h=>aX ii h,oW:=λ_ h=>aX ii h,ready:=λh=>co5,uP:=λ_ _ _ _ _=>rfl,bY:=λ_ h=>co5,tI:=λ_=>rfl,yC:=λ_=>rfl,rest:=λ_ _ s h=>co5,br:=λh=>by simp[aT,bm,jQ]at h,aN:=⟨by simp[jQ],λ_=>rfl⟩,plain:=λ_=>⟨ii,ii,ii⟩,cO:=λ_ h=>co5,hand:=λh=>co5,BE:=λ_ h=>co5,aR:=λ_=>⟨λh=>?_,λh=>co5⟩,dG:=λh=>co5,res:=λ_ h=>co5,num:=by simp[jQ]}
 .show(0:Int)<=(l.length:Nat);omega
 grind [jQ]
theorem kA{k:Nat}{l:bv}(h:(List.replicate b ([]:bv))[k]?=l):l=[]:=by
 grind
section
variable(P:aY4 p){N:Nat}(hN:N<=64){most:Int}(hm:1<=most/\most<=16)
include P hN hm
theorem bk9(UB:ce):Inv (gj p N most UB) (List.replicate 16 []):=by
 have n:∀(g:Nat) x,(gj p N most UB).gs[g]?=some x->∃l∈p,x=jQ l:=by intro g x h;obtain⟨l,j,i⟩:=ak3.1 (lf h);exact⟨l,j,i.symm⟩
 have q:∀{x:bI} {l:go},x=jQ l->¬aW x/\¬aT x/\¬bm x/\x.bY= -1/\x.aN= -1/\x.bA=[]/\x.OK=[]/\x.ae=0:=by grind [aW,aT,bm,jQ]
 refine⟨?_,?_,?_,ii,ii,?_,?_,?_,?_,?_,?_,?_,?_,?_,?_,?_,?_,?_,?_,?_,?_,?_,?_,?_,?_⟩
 .simp[gj];exact P.len
 .simp[gj]
 .simp[gj]
 .simp[gj]
 .simp[gj];exact hN
 .simp[gj]
 .simp
 .refine⟨⟨hm.1,hm.2,ae1 0,?_,?_,?_,?_,?_,?_,?_⟩,?_,?_,?_,?_,?_,?_,?_⟩
  .simp[gj]
  .simp[gj]
  .simp[gj];exact hN
  .simp[gj]
  .grind [gj]
  .simp[gj]
  .grind [gj]
  .simp[gj]
  .simp[gj]
  .simp[gj]
  .grind [gj]
  .simp[gj]
  .intro x d;simp[gj]at d
  intro y _ h;have h:y<N:=by simpa[gj]using h
  show(List.replicate N false)[y]?=false;grind
 .refine⟨by simp[gj],?_,?_,?_,?_⟩
  .intro k l h;have d:=kA h;subst d;have f:k<16:=by have:=um h;simpa using this
   show(List.replicate 16 ({}:Ct))[k]?=_;rw[uA,aF f];rfl
  .intro k a b x h;have d:=kA h;simp at d
  .intro x f h _;have h:(List.replicate N ({}:nf))[x]?=f:=h;grind
  grind
 .grind [QW,aY4.row,aY4.ops]
 .intro c h m;simp[gj]at m
 .intro s sd h m;have h:(List.replicate N ({}:fE))[s]?=sd:=h;grind
 .grind
 .grind
 .grind
 .grind
 .grind
 .grind
 .grind
 .intro g x s f h m;obtain⟨l,j,i⟩:=n g x h;obtain⟨r,u,v,A,B,D,F,G⟩:=q i;have m:(List.replicate p ((0:Int),false))[g]?=(s,f):=m;grind
 .intro g x z h d;grind
 all_goals grind
theorem GH(UB:ce):Row p UB 0 (gj p N most UB):=by
 refine⟨⟨_,bk9 P hN hm UB⟩,ii,oX,⟨ae1 0,?_⟩,ii,?_,rx 0,λm h=>by simp[gj]at h⟩
 .show(0:Int)<=UB.length;omega
 show(p.map jQ).map (·.ops)=p;rw[List.map_map];conv=>rhs;rw[<-List.map_id p]
 rfl
end
theorem T8(I:Inv t ls)(hx:t.gs[g]?=x)(m:x.ae=18)(c:t.gs.map (·.ops)=p)(d:Int):uk p t.au (qu x g d):=by
 have L:=bT4;have n:=bU3;have f:=L.JY;obtain⟨j,i⟩:=pz f.1;have l:p[g]?=x.ops:=by rw[<-c,na,hx];rfl
 have b:x.ops[j]?=aP x:=by unfold aP idx;grind
 refine⟨g,j,x.ops,aP x,ii,i,l,b,λa=>⟨(L.plain a).2.1,(L.plain a).1⟩,λa=>?_⟩;have R:=L.res a oX;unfold cV at R;exact R
theorem aT7(h:Na t g):g<t.ax:=by
 obtain⟨a,h⟩:=h;grind
theorem Row.next(R:Row p UB k S)(D:UB.length<=100000)(F:k<900000)(i:bU S.ax g=0):∃S',uj {S with av:=S.av+1} g S'/\Row p UB (k+1) S':=by
 obtain⟨⟨ls,I⟩,r,G,u,j,l,H,n⟩:=R
 have v:g<S.ax.length:=by
  rcases aj8 g S.ax with h|h
  .exact h
  unfold bU idx at i;grind
 have J:=I.ax;have q:S.gs[g]?=S.gs[g]' oX:=fv oX;obtain⟨S',A,a,b,c⟩:=QU I q (SF i v) u.1 co2 oX;refine⟨S',a,⟨A,b⟩,by rw[c.av,r];omega,oX,?_,c.list.trans j,c.ops.trans l,?_,?_⟩
 .have:=c.drawn;rw[j]at this;omega
 .rcases c.done with d|⟨_,d⟩
  .rw[d];omega
  rw[d,aU7];simp;omega
 intro m f;rcases c.done with d|⟨B,d⟩
 .rw[d]at f;exact(n m f).more c.au
 rw[d]at f;rcases ae4.1 f with f|f
 .exact(n m f).more c.au
 rw[ae6.1 f];exact(T8 I q B l _).more c.au
theorem sF:∀(b:List (Int×Bool)) (i:Nat) (g:Int),g∈eY i b->∃j:Nat,g=((i+j:Nat):Int)/\∃c,b[j]?=some (0,c)
 | [],i,g,h=>by simp[eY]at h
 |(d,c)::l,i,g,h=>by
  unfold eY at h;split at h
  .rename_i f;rcases iL.1 h with h|h
   .grind
   exact cg4
  exact cg4
theorem sG{b:List (Int×Bool)}{g:Int}(h:g∈cE b):∃j:Nat,g=j/\bU b g=0:=by
 obtain⟨j,a,c,d⟩:=sF b 0 g h;have a:g=(j:Int):=by simpa using a
 subst a;refine⟨j,ii,?_⟩;unfold bU idx;grind
theorem au9(p:be)(UB:ce)(c:UB.length<=100000)(a:∀v∈UB,0<=v/\v<=65535):T6 900000 (Row p UB):=by
 refine⟨λk S R=>?_,λk S R=>?_,λk S g R h=>sG h,λk S g R d f=>?_⟩
 .obtain⟨ls,I⟩:=R.inv;grind [Inv.ax,Inv.n8]
 .have:=R.av;have:=R.most;omega
 obtain⟨ls,I⟩:=R.inv;have b:=R.drawn;have i:=R.av;exact QV (ls:=ls) (I.same ii ii ii ii ii ii ii ii) (by show ∀v∈S.list,_;rw[R.list];exact a) ⟨b.1,by show S.drawn<=100000;omega⟩ ⟨by show _<=S.av+1;omega,by show S.av+1<=_;omega⟩
end
end V
def sH(N n a:Nat)(most:Int)(b:ce)(s c d e f g h i:Nat)(j:Option Nat)(k:Nat)(l m o p q r:Nat):bH->Option oJ
 | .aQ=>some (some s,0,[I N,most,I 0,(),c,(),(),e,p,(g,N,N),
   .pointer l,h,(UH j,a,k),()])
 | .dB=>some (some c,0,[(d,n,n)])
 | .ax=>some (some d,n,bT ry 0 (List.replicate n (0,false)))
 | .dY=>some (some e,0,[(f,0,0)])
 | .dQ=>some (some f,0,[])
 | .ah=>some (some g,N,bT mg 0 (List.replicate N {}))
 | .gN=>some (some h,0,[(i,a,a),I 0])
 | .list=>some (some i,a,b.map U)
 | .UB=>some (j,k,b.map U)
 | .Eg=>some (some l,0,[I N,most,(m,n,n),(),I 0,(o,N,N)])
 | .aC=>some (some m,n,List.replicate n ())
 | .bV=>some (some o,N,(List.replicate N false).map B)
 | .ef=>some (some p,0,[(q,N,N),(r,16,16)])
 | .aS=>some (some q,N,bT oD 0 (List.replicate N {}))
 | .bM=>some (some r,16,bT rG 0 (List.replicate 16 {}))
 |_=>none
theorem Aa{α β:Type}(f:Nat->β->bi)(g:α->β):∀(l:List α) (i:Nat),bT f i (l.map g)=bT (λi x=>f i (g x)) i l
 | [],_=>rfl
 |x::l,i=>by simp only[ae8,bT,Aa f g l (i+1)]
theorem Ab{α:Type}(f:Nat->α->bi)(v:Value)(a:α)(h:∀i,f i a=[v]):∀(n i:Nat),bT f i (List.replicate n a)=List.replicate n v
 |0,_=>rfl
 |n+1,i=>by simp only[List.replicate_succ,bT,h,Ab f v a h n (i+1),List.singleton_append]
def oS:bH->bH ⊕ CK
 | .ops g=> .inr (some (.ops g))
 | .cases g j=> .inr (some (.cases g j))
 |r=> .inl r
theorem T9:∀a b,oS a=oS b->a=b:=by
 intro a b h
 cases a<;>cases b<;>simp_all [oS]
theorem Ua{p:be}{Z:Nat}{most:Int}{UB:ce}{d e n s J w x K:Nat}{y:Option Nat}{A B C D E G H:Nat}{lo a0:Nat}(R:z=p)(fX:Z=UB)(h0:0<z){GI:CK->Option Nat}{GJ:CK->Nat}{cC:CK->bi}(U:fY a0 f w' p z 0 GI GJ cC){ga:am}{gc:Nat}{W:bH ⊕ CK->Option Nat}{cap:bH ⊕ CK->Nat}{c:bH ⊕ CK->bi}(X:rV lo v u p (Sum.inl .gs) (Sum.inl .aQ) (λi l=>nG (GI (some (.ops i))) l (GJ (some (.ops i)))) d (Sum.elim (λk=>(sH cp z Z most UB d e n s J w x K y A B C D E G H k).bind (·.1)) GI) (Sum.elim eI Nl) (Sum.elim (λk=>((sH cp z Z most UB d e n s J w x K y A B C D E G H k).map (·.2.1)).getD 0) GJ) (Sum.elim (λk=>((sH cp z Z most UB d e n s J w x K y A B C D E G H k).map (·.2.2)).getD []) cC) z ga gc W cap c)(Et:y=none->Z=0/\A=0):∃F m,F.aQ=d/\bz lo F u m (V.gj p cp most UB):=by
 subst fX
 obtain⟨gb,yp⟩:∃gb,W (.inl .gs)=some gb:=by
  cases h:W (.inl .gs) with
  |none=>have:=X.cU;rw[h]at this;simp[nG]at this;omega
  |some g=>exact⟨g,ii⟩
 have O:=X.own.map oS T9;have hB:∀r:bH,r≠ .gs->W (.inl r)=(sH cp z UB most UB d e n s J w x K y A B C D E G H r).bind (·.1):=λr h=>(X.yf (.inl r) ck0).1
 have hP:∀r:bH,r≠ .gs->cap (.inl r)=((sH cp z UB most UB d e n s J w x K y A B C D E G H r).map (·.2.1)).getD 0:=λr h=>(X.yf (.inl r) ck0).2
 have a:∀r:bH,r≠ .gs->r≠ .aQ->c (.inl r)=((sH cp z UB most UB d e n s J w x K y A B C D E G H r).map (·.2.2)).getD []:=λr h M=>X.Sn (.inl r) ck0 (by simpa using M)
 have a5:∀k:CK,W (.inr k)=GI k:=λk=>(X.yf (.inr k) sX).1
 have a6:∀k:CK,cap (.inr k)=GJ k:=λk=>(X.yf (.inr k) sX).2
 have YQ:∀k:CK,c (.inr k)=cC k:=λk=>X.Sn (.inr k) sX sX
 have hg:=X.cU;have mA:=X.row;have a7:=X.wc;obtain⟨m,hm⟩:∃m:Mem,m=⟨λr=>W (oS r),λr=>cap (oS r)⟩:=⟨_,ii⟩;have S:∀r,m.aV r=W (oS r):=λr=>by rw[hm]
 have G7:∀r,m.cap r=cap (oS r):=λr=>by rw[hm]
 have Q:∀r:bH,oS r=.inl r->r≠ .gs->sH cp z UB most UB d e n s J w x K y A B C D E G H r=none->∀q,m.cU r q=():=λr N M h3 q=>by grind [Mem.j6]
 have L:∀(r:bH) (b:Nat),oS r=.inl r->r≠ .gs->(sH cp z UB most UB d e n s J w x K y A B C D E G H r).bind (·.1)=some b->m.aV r=some b:=λr b N M h3=>cp2
 have rj:∀(r:bH) (q:Nat),oS r=.inl r->r≠ .gs->((sH cp z UB most UB d e n s J w x K y A B C D E G H r).map (·.2.1)).getD 0=q->m.cap r=q:=λr q N M h3=>cp2
 have T:∀(r:bH) (b q n':Nat),oS r=.inl r->r≠ .gs->(sH cp z UB most UB d e n s J w x K y A B C D E G H r).bind (·.1)=some b->((sH cp z UB most UB d e n s J w x K y A B C D E G H r).map (·.2.1)).getD 0=q->m.cU r n'=.slice (some ⟨b,0,none⟩) n' q:=λr b q n' N M h3 h4=>by grind [Mem.de]
 have zD:∀(r:bH) (b:Nat),oS r=.inl r->r≠ .gs->(sH cp z UB most UB d e n s J w x K y A B C D E G H r).bind (·.1)=some b->m.ptr r=b:=λr b N M h3=>Mem.lz (L r b N M h3)
 have Y:∀i l,p[i]?=some l->p.getD i []=l:=λi l h=>by rw[c9X,h];rfl
 refine⟨{aQ:=d,gs:=gb,dB:=e,ax:=n,dY:=s,ef:=E,aS:=G,bM:=H,ah:=w,Eg:=B,aC:=C,bV:=D,gN:=x},m,ii,?_⟩
 have jM:∀r,aj m (V.gj p cp most UB) r=c (oS r):=by
  intro r;have zd:∀g:Nat,(V.gj p cp most UB).gs[g]?=(p[g]?).map V.jQ:=λg=>na ..
  cases r with
  |aQ=>
   rw[show oS .aQ=.inl .aQ from ii,a7];have e1:m.cU .gs z=(ga,z,gc):=(by rw[qC,S,G7];exact hg.symm);have e2:m.cU .UB UB.length=(UH y,UB.length,A):=(by rw[qC,S,G7,Sw Et,show oS .UB=.inl .UB from ii,hB _ sX,hP _ sX];rfl);show[I cp,I most,I 0,m.cU .gs (p.map V.jQ).length,m.ptr .dB,m.cU .au 0,m.cU .aO 0,m.ptr .dY,m.ptr .ef,m.cU .ah (List.replicate cp ({}:fE)).length,m.ptr .Eg,m.ptr .gN,m.cU .UB UB.length,m.cU .done 0]=_;rw[ko,<-R,e1,e2,vE,zD .dB e ii sX ii,Q .au rfl sX ii,Q .aO rfl sX ii,zD .dY s ii sX ii,zD .ef E ii sX ii,T .ah w cp cp ii sX ii ii,zD .Eg B ii sX ii,zD .gN x ii sX ii,Q .done rfl sX rfl];rfl
  |gs=>
   show bT (gk m) 0 (p.map V.jQ)=_;rw[Aa,show oS .gs=.inl .gs from ii,mA,R,aj3];refine gX λi l hl=>?_
   show[m.cU (.ops i) l.length,_,_,_,_,_,_,_,_,_,_,_,_,_,_]++_++[m.cU (.aH i) 0,m.cU (.aq i) 0,m.cU (.bA i) 0,m.cU (.OK i) 0,_]=_;rw[Q (.aH i) ii sX ii,Q (.aq i) ii sX ii,Q (.bA i) ii sX ii,Q (.OK i) ii sX ii,qC,S,G7,show oS (.ops i)=.inr (some (.ops i))from ii,a5,a6];rfl
  |ops g=>
   rw[show oS (.ops g)=.inr (some (.ops g))from ii,YQ];simp only[aj,zd]
   cases hg:p[g]? with
   |none=>
    rw[U.own.none_ _ ?_];rfl;grind [fY.more,fY.YP]
   |some l=>
    rw[U.rows g (by rw[R];exact fm hg),Y g l hg];simp only[km];refine gX λq o ho=>?_
    show[_,_,_,_,m.cU (.cases g q) _,_]=[_,_,_,_,_,_];grind [qC,oS]
  |cases g j=>
   rw[show oS (.cases g j)=.inr (some (.cases g j))from ii,YQ];simp only[aj,zd]
   cases hg:p[g]? with
   |none=>
    rw[U.own.none_ _ (U.J7 g j ?_)];rfl;grind
   |some l=>
    have a8:g<z:=(by rw[R];exact fm hg);simp only[km]
    cases ho:l[j]? with
    |none=>
     rw[U.own.none_ _ (U.less g j (by rw[Y g l hg];exact ho))];exact cc5
    |some o=>
     rw[U.rU g j o (.inl a8) (by rw[Y g l hg];exact ho)];exact cc5
  |dB=>
   rw[show oS .dB=.inl .dB from ii,a _ sX sX];show[m.cU .ax (List.replicate p ((0:Int),false)).length]=_;rw[vE,<-R,T .ax n z z ii sX ii rfl];rfl
  |ax=>
   rw[show oS .ax=.inl .ax from ii,a _ sX sX];show bT ry 0 (List.replicate p ((0:Int),false))=_;rw[<-R];rfl
  |dY=>
   rw[show oS .dY=.inl .dY from ii,a _ sX sX];show[m.cU .dQ 0]=_;rw[T .dQ J 0 0 rfl sX ii rfl];rfl
  |ef=>
   rw[show oS .ef=.inl .ef from ii,a _ sX sX];show[m.cU .aS (List.replicate cp ({}:nf)).length,m.cU .bM (List.replicate 16 ({}:Ct)).length]=_;rw[vE,vE,T .aS G cp cp ii sX ii ii,T .bM H 16 16 rfl sX ii rfl];rfl
  |Eg=>
   rw[show oS .Eg=.inl .Eg from ii,a _ sX sX];show[I cp,I most,m.cU .aC (List.replicate p ([]:ce)).length,m.cU .aK 0,I 0,m.cU .bV (List.replicate cp false).length]=_;rw[vE,vE,<-R,T .aC C z z ii sX ii ii,Q .aK rfl sX ii,T .bV D cp cp ii sX ii rfl];rfl
  |aC=>
   rw[show oS .aC=.inl .aC from ii,a _ sX sX];show bT (je m) 0 (List.replicate p ([]:ce))=_;rw[Ab (je m) () [] (λi=>by show[m.cU (.cache i) 0]=_;rw[Q (.cache i) ii sX rfl]),<-R];rfl
  |cache g=>
   rw[show oS (.cache g)=.inl (.cache g)from ii,a _ sX sX];simp only[aj];show(match(List.replicate p ([]:ce))[g]? with|some c=>c.map I|none=>[])=[];grind
  |gN=>
   rw[show oS .gN=.inl .gN from ii,a _ sX sX];show[m.cU .list UB.length,I 0]=_;rw[T .list K UB UB ii sX ii rfl];rfl
  |au=>
   rw[show oS .au=.inl .au from ii,a _ sX sX];rfl
  |aO=>
   rw[show oS .aO=.inl .aO from ii,a _ sX sX];rfl
  |dQ=>
   rw[show oS .dQ=.inl .dQ from ii,a _ sX sX];rfl
  |aS=>
   rw[show oS .aS=.inl .aS from ii,a _ sX sX];rfl
  |bM=>
   rw[show oS .bM=.inl .bM from ii,a _ sX sX];rfl
  |ah=>
   rw[show oS .ah=.inl .ah from ii,a _ sX sX];rfl
  |aK=>
   rw[show oS .aK=.inl .aK from ii,a _ sX sX];rfl
  |bV=>
   rw[show oS .bV=.inl .bV from ii,a _ sX sX];rfl
  |list=>
   rw[show oS .list=.inl .list from ii,a _ sX sX];rfl
  |UB=>
   rw[show oS .UB=.inl .UB from ii,a _ sX sX];rfl
  |done=>
   rw[show oS .done=.inl .done from ii,a _ sX sX];rfl
  |aH g=>
   rw[show oS (.aH g)=.inl (.aH g)from ii,a _ sX sX];exact cc8
  |aq g=>
   rw[show oS (.aq g)=.inl (.aq g)from ii,a _ sX sX];exact cc8
  |bA g=>
   rw[show oS (.bA g)=.inl (.bA g)from ii,a _ sX sX];exact cc8
  |OK g=>
   rw[show oS (.OK g)=.inl (.OK g)from ii,a _ sX sX];exact cc8
  |eU i=>
   rw[show oS (.eU i)=.inl (.eU i)from ii,a _ sX sX];rfl
  |pl0 i=>
   rw[show oS (.pl0 i)=.inl (.pl0 i)from ii,a _ sX sX];rfl
 refine⟨λr r' b N M=>O.inj r r' b (by rw[S]at N;exact N) (by rw[S]at M;exact M),λr b h=>?_,λr h=>?_,?_⟩
 .rw[S]at h;obtain⟨N,a9,t,a1,a2,a3,a4⟩:=O.lies r b h;rw[jM r,G7];refine⟨N,a9,t,a1,a2,a3,λq hq=>a4 q ?_⟩
  cases r<;>simp_all [eI,oS,Nl]
 .rw[jM r];rw[S]at h;exact O.none_ r h
 refine⟨L _ _ ii sX ii,?_,L _ _ ii sX ii,L _ _ ii sX ii,L _ _ ii sX ii,L _ _ ii sX ii,L _ _ ii sX ii,L _ _ ii sX ii,L _ _ ii sX ii,L _ _ ii sX ii,L _ _ ii sX ii,L _ _ ii sX ii,L _ _ ii sX ii⟩;rw[S];exact yp
theorem GM(p:be)(n:Nat)(hn:n=p)(a:am)(ca:Nat)(N most:Nat)(UB:ce)(nd:Nat)(fX:nd=UB)(da:am)(cd:Nat)(w:World)(h1:aH1 w a p)(zU:CQ p)(h8:0<n/\n<=8)(hN:N<=64)(gI:nK N n most)(hd:Rd .u16 w da UB)(ab:nd<=300)(hr:∀z∈UB,0<=z/\z<=65535)(Q3:∀W:World,Below w w W->gt 77 #[(a,n,ca)] W λe w'=>e=Value.bool true/\Below W W w'):gt 43 #[(a,n,ca),.agg #[I N,I most],(da,nd,cd)] w λe w'=>∃F m,e=Value.tuple #[F.aQ,I 0]/\bz w F w' m (V.gj p N most UB)/\Below w w w':=by
 obtain⟨i0,hi,fV,jC,gG⟩:=AC xU;obtain⟨i1,ki,JV,JW,JX⟩:=AC xO;have sN:∀W:World,(Instr.makeSlice 37 (I N) (I N)).run prog W=.ok (.slice (some ⟨W.heap.size,0,none⟩) N N) (W.alloc (.cells (madeCells (Value.agg #[B false,I 0,I 0,I 0,B false,I 0,B false]).cells (N*i0.size)) 105)):=λW=>av9 (P:=prog) 37 105 i0 underlying37 hi fV .i64 .i64 N N cG cl1 oX W
 rw[jC]at sN;clear fV hi jC gG;obtain⟨Hn,Xe,H1,HS,Ah,HD⟩:=mr hn fX h1 zU gI hd;obtain⟨HR,a3⟩:=dA hr Q3;have X0:Hid (eh w w (w.alloc (.cells #[I N,I most] 24)) [(.aH 0,some w,0,[I N,I most])]):=by have X:eh w w w []:=⟨fp,rx _,sX,λe h=>cj5,λe h=>cj5⟩;exact X.Og ((fp).alloc cG _) _ _ _ _ cG (fF (dP) ii (λp h=>cq7))
 clear hn fX h1 zU gI hd hr Q3;go_enter func43,ntmps43;have HP:=ag (λ(d:World) (L:List (bH×oJ)) (H:eh w w d L)=>E1 N n most h8.2 hN Ah H);have HQ:=ag (λ(d:World) (L:List (bH×oJ)) (H:eh w w d L)=>BN N hN H)
 go_upto_region 9 with(first
  |(go_at_call 77;refine(a3 _ X0.out.below).mono ?_;rintro e d ⟨rfl,Y⟩;have X1:=ag (X0.out.eC Y);have c0:=X1.out.cell (j:=0) (ae6.2 ii) ii;have c1:=X1.out.cell (j:=1) (ae6.2 ii) ii;clear Y)
  |(go_at_call 78;refine(HP _ _ X1).mono ?_;rintro e w2 ⟨bP,gP,qP,rfl,x2⟩;have X2:=ag x2;have d0:=x2.cell (r:=.aH 0) (b:=w.heap.size) (cap:=0) (cs:=[I N,I most]) (j:=0) sX ii;have d1:=x2.cell (r:=.aH 0) (b:=w.heap.size) (cap:=0) (cs:=[I N,I most]) (j:=1) sX ii;clear x2 c0 c1)
  |(go_at_call 79;refine(HQ _ _ X2).mono ?_;rintro e w3 ⟨bQ,gQ,qQ,rfl,x3⟩;have X3:=ag x3;have e0:=x3.cell (r:=.aH 0) (b:=w.heap.size) (cap:=0) (cs:=[I N,I most]) (j:=0) sX ii;have e1:=x3.cell (r:=.aH 0) (b:=w.heap.size) (cap:=0) (cs:=[I N,I most]) (j:=1) sX ii;clear x3 d0 d1))
 have HB:=ag (λ(d:World) (L:List (bH×oJ)) (H:eh w w d L)=>BM n h8.1 oX H);have HL:=ag (λ(d:World) (L:List (bH×oJ)) (H:eh w w d L)=>LF H);have RJ:=ag (λ(d:World) (L:List (bH×oJ)) (H:eh w w d L)=>E0 UB nd Xe da cd H (HD.out.below H.below cG) ab)
 have Z:=ag (λ(d:World) (L:List (bH×oJ)) (H:eh w w d L)=>show eh w w (d.alloc (.cells (madeCells #[B false,I 0,I 0,I 0,B false,I 0,B false] (N*7)) 105)) ((.ah,some d,N,bT mg 0 (List.replicate N {}))::L) from
  H.Og ((fp).alloc cG _) _ _ _ _ cG (fF (dP) (gz (f:=mg) (a:=({}:fE)) (z:=#[B false,I 0,I 0,I 0,B false,I 0,B false]) (λ_=>rfl) dX N) (λp h=>cq7)))
 have a4:Hid (∀(d:World),Below w w d->0<nd->∃b off,da=some ⟨b,off,none⟩/\∀j u,(UB.map U)[j]?=some u->d.cell? ⟨b,off+j,none⟩=some u):=λd Y h0=>by obtain⟨b,off,e,hc⟩:=(HD.out.below Y cG).2 (by rw[<-Xe.out];exact h0);grind
 have LD:=ag (λ(ad:Array Oper) (o:Oper) (ac:Act) (K:Act->World->Prop) (Q:Exit->Act->World->Prop) (E:Prop) (d:World) (L:List (bH×oJ)) (H:eh w w d L)=>uT (P:=prog) (ops:=ad) (o:=o) (a:=ac) (w:=d) (K:=K) (Q:=Q) (E:=E) (s:=.const ()) (x:=.tmp 51) (t:=25) (ht:=underlying25) (hi:=ki) (hz:=JV) (hsize:=JW) (hby:=JX) (hzs:=rfl) (hsz:=ax5) (hbb:=dX)
  (ao:=da) (n:=nd) (c:=cd) (cs:=UB.map U) (hl:=by rw[ko,Xe.out,at8]) (hc:=a4.out d H.below) (h1:=bI4 _ _) (hn:=oX) (H:=H) (r:=.UB) (hr:=ct0))
 have wH:=ag (λ(d:World) (L:List (bH×oJ)) (cs:dl) (q:Nat) (H:eh w w d L) (hq:d=q)=>show eh w w (d.alloc (.cells cs 94)) ((.aQ,some q,0,cs.toList)::L)from by subst hq;exact H.Og ((fp).alloc cG _) _ _ _ _ cG (fF (dP) ii (λp h=>cq7)));have X:=ag X3.out.drew;go_cut [11]from 39 to 54 (λx wx=>∃y D G J M bS S T dd dc,x=.pointer (some ⟨y,0,none⟩)/\(dd=none->nd=0/\dc=0)/\Hid (∃L,eh w.heap.size w wx L/\∀k,sH N n nd most UB y D G J M bS S T dd dc bP gP qP bQ gQ qQ k=none\/L.lookup k=sH N n nd most UB y D G J M bS S T dd dc bP gP qP bQ gQ qQ k))
 case first=>
  go_region_held3 (λW=>W.cell? w.heap.size=I N/\W.cell? (w.heap.size,1)=I most) (first|exact⟨e0,e1⟩|go_keep)
   (first
    |((first|refine LD _ _ _ _ _ _ _ _ X.out ii ii ck2 ck2 ?_|refine LD _ _ _ _ _ _ _ _ (Z _ _ X.out) ii ii ck2 ck2 ?_|refine LD _ _ _ _ _ _ _ _ (Z _ _ X3).drew rfl ii ck2 ck2 ?_);intro Y A wC ae x Et;obtain⟨X,e0,e1⟩:=bL1;clear x ae)
    |(go_at_call 80;(first|with_reducible refine(HB.out _ _ X.out).mono ?_|with_reducible refine(HB.out _ _ (Z.out _ _ X.out)).mono ?_|with_reducible refine(HB.out _ _ (Z.out _ _ X3.out).drew).mono ?_);rintro e wB ⟨D,G,rfl,x⟩;obtain⟨X,e0,e1⟩:=bL1;clear x)
    |(go_at_call 81;(first|with_reducible refine(HL.out _ _ X.out).mono ?_|with_reducible refine(HL.out _ _ (Z.out _ _ X.out)).mono ?_|with_reducible refine(HL.out _ _ (Z.out _ _ X3.out).drew).mono ?_);rintro e wL ⟨J,M,rfl,x⟩;obtain⟨X,e0,e1⟩:=bL1;clear x)
    |(go_at_call 82;(first|with_reducible refine(RJ.out _ _ X.out).mono ?_|with_reducible refine(RJ.out _ _ (Z.out _ _ X.out)).mono ?_|with_reducible refine(RJ.out _ _ (Z.out _ _ X3.out).drew).mono ?_);rintro e wD ⟨S,T,rfl,x⟩;obtain⟨X,e0,e1⟩:=bL1;clear x))
  all_goals go_wp2_with fail
  all_goals go_meet
  all_goals clear HB HL RJ LD a4 HP HQ X0 X1 X2 H1 HS a3 HD HR ki JV JW JX sN
  all_goals first
   |(refine⟨_,D,G,J,M,w3.heap.size,S,T,Y,A,ii,Et,_,wH _ _ _ _ X.out ii,?_⟩;intro k;cases k<;>first|exact .inl rfl|exact .inr rfl)
   |(refine⟨_,D,G,J,M,w3.heap.size,S,T,Y,A,ii,Et,_,wH _ _ _ (w3.heap.size+1) (Z _ _ X.out) sX,?_⟩;intro k;cases k<;>first|exact .inl rfl|exact .inr rfl)
   |(refine⟨_,D,G,J,M,wB.heap.size,S,T,Y,A,ii,Et,_,wH _ _ _ _ X.out ii,?_⟩;intro k;cases k<;>first|exact .inl rfl|exact .inr rfl)
   |(refine⟨_,D,G,J,M,wB.heap.size,S,T,Y,A,ii,Et,_,wH _ _ _ (wB.heap.size+1) (Z _ _ X.out) sX,?_⟩;intro k;cases k<;>first|exact .inl rfl|exact .inr rfl)
   |(refine⟨_,D,G,J,M,wL.heap.size,S,T,Y,A,ii,Et,_,wH _ _ _ _ X.out ii,?_⟩;intro k;cases k<;>first|exact .inl rfl|exact .inr rfl)
   |(refine⟨_,D,G,J,M,wL.heap.size,S,T,Y,A,ii,Et,_,wH _ _ _ (wL.heap.size+1) (Z _ _ X.out) sX,?_⟩;intro k;cases k<;>first|exact .inl rfl|exact .inr rfl)
   |(refine⟨_,D,G,J,M,wD.heap.size,S,T,Y,A,ii,Et,_,wH _ _ _ _ X.out ii,?_⟩;intro k;cases k<;>first|exact .inl rfl|exact .inr rfl)
   |(refine⟨_,D,G,J,M,wD.heap.size,S,T,Y,A,ii,Et,_,wH _ _ _ (wD.heap.size+1) (Z _ _ X.out) sX,?_⟩;intro k;cases k<;>first|exact .inl rfl|exact .inr rfl)
   |(refine⟨_,D,G,J,M,wC.heap.size,S,T,Y,A,ii,Et,_,wH _ _ _ _ X.out ii,?_⟩;intro k;cases k<;>first|exact .inl rfl|exact .inr rfl)
   |(refine⟨_,D,G,J,M,wC.heap.size,S,T,Y,A,ii,Et,_,wH _ _ _ (wC.heap.size+1) (Z _ _ X.out) sX,?_⟩;intro k;cases k<;>first|exact .inl rfl|exact .inr rfl)
 obtain⟨y,D,G,J,M,bS,S,T,dd,dc,rfl,Et,HF⟩:=hcut;clear X HB HL RJ LD a4 HP HQ X0 X1 X2 X3 a3 HD HR ki JV JW JX sN wH Z e0 e1;obtain⟨L,hL,hf⟩:=HF.out;have O:=ag (hL.own hf);have af:=ag Et;obtain⟨iG,gi,RO,ai,RQ⟩:=AC uS;clear HF hL hf Et;have tP:=ag (tQ p n Hn.out a ca wc (H1.out.below O.out.below cG) HS);go_wp2_with (go_at_call 83;refine tP.out.mono ?_;rintro e w4 ⟨og,oc,GI,GJ,cC,rfl,hC,oF,xz⟩;have HC:=ag hC;have a5:=ag (dO oF xz);clear hC oF xz);obtain⟨Hz,Q4⟩:∃X,X=Sum.elim (λk=>(sH N n nd most UB y D G J M bS S T dd dc bP gP qP bQ gQ qQ k).bind (·.1)) GI:=⟨_,ii⟩;obtain⟨TY,a1⟩:∃X,X=Sum.elim eI Nl:=⟨_,ii⟩;obtain⟨Nn,Xf⟩:∃X,X=Sum.elim (λk=>((sH N n nd most UB y D G J M bS S T dd dc bP gP qP bQ gQ qQ k).map (·.2.1)).getD 0) GJ:=⟨_,ii⟩;obtain⟨C,a0⟩:∃X,X=Sum.elim (λk=>((sH N n nd most UB y D G J M bS S T dd dc bP gP qP bQ gQ qQ k).map (·.2.2)).getD []) cC:=⟨_,ii⟩;obtain⟨GN,Q5⟩:∃X:Nat->go->Value,X=λi l=>nG (GI (some (.ops i))) l.length (GJ (some (.ops i))):=⟨_,ii⟩
 have HX:Hid (∃A cap c,rV w.heap.size w w4 p (Sum.inl .gs) (Sum.inl .aQ) GN y Hz TY Nn C 0 none 0 A cap c):=by rw[Q4,a1,Xf,a0,Q5];refine⟨_,_,_,⟨O.out.join HC.out.own,λk h=>⟨ii,ii⟩,λk h1 h2=>rfl,ii,ii,ii,ii⟩⟩
 have TD:Hid (Hz (Sum.inl .aQ)=some y):=by rw[Q4];rfl
 have UC:Hid (TY (Sum.inl .gs)=some (100,25)):=by rw[a1];rfl
 have UP:Hid (∀v,((C (Sum.inl .aQ)).set 3 v)[3]?=some v):=by rw[a0];intro v;rfl
 have a6:Hid (Hz (Sum.inr none)=og/\C (Sum.inr none)=(List.range n).map λi=>GN i (p.getD i [])):=by rw[Q4,a0,Q5];exact⟨a5.out.1,HC.out.out⟩
 have ak:Hid (∀i l,∃la ln lc,GN i l=.slice la ln lc):=by rw[Q5];intro i l;show ∃la ln lc,nG (GI (some (.ops i))) l (GJ (some (.ops i)))=.slice la ln lc;unfold nG;grind
 have al:=ag (dO Q4 (dO a1 (dO Xf (dO a0 Q5))));clear Q4 a1 Xf a0 Q5 O tP a5 H1 HS Ah;go_loopw [58] (λi wr=>∃(j:Nat) (ga:am) (gc:Nat),i=.int .i64 j/\j<=n/\Hid (∃A cap c,rV w.heap.size w wr p (Sum.inl .gs) (Sum.inl .aQ) GN y Hz TY Nn C j ga gc A cap c)) (λi _=>n-(intOf i).toNat)
 case atStart=>exact⟨0,none,0,ii,oX,HX⟩
 clear HX;obtain⟨j,ga,gc,rfl,hj,HX⟩:=hrel;by_cases dD:j<n
 .obtain⟨A,cap,c,X⟩:=HX.out;obtain⟨l,hl⟩:∃l,p[j]?=some l:=⟨_,fv cn8⟩;obtain⟨la,ln,lc,hH⟩:=ak.out j l;have dj:wr.cell? ⟨og,j,none⟩=some (.slice la ln lc):=by refine X.own.cell (k:=Sum.inr none) (by rw[(X.yf _ sX).1];exact a6.out.1) ?_;rw[X.Sn _ sX sX,a6.out.2,na,bI9 dD,<-hH];grind
  have c3:wr.cell? ⟨y,3,none⟩=some (.slice ga j gc):=X.own.cell (k:=Sum.inl .aQ) X.wk_ (by rw[X.wc];exact UP _);have a2:wr.ownsRow w 100 25 (.slice ga j gc) j (c (Sum.inl .gs)):=by rw[X.cU];exact X.own.owns (k:=Sum.inl .gs) (p:=(100,25)) UC dX (by rw[X.row,aV9 (k:=25) (λ_ _=>rfl),tC,<-Hn.out,ar3 hj])
  have qq:=X.own.tL;have nv:=ag a2;have Z3:Hid (∃A cap c',rV w.heap.size w wr p (Sum.inl .gs) (Sum.inl .aQ) GN y Hz TY Nn C j ga gc A cap c'/\c (Sum.inl .gs)=c' (Sum.inl .gs)):=⟨A,cap,c,X,ii⟩;obtain⟨HL,HH⟩:=dA hl hH;clear X a2 HX hl hH;go_wp2_with (at_builtin;go_loud (refine gY (us:=#[Value.slice la ln lc,I 0,I 0,I 0,B false,I 0,B false,I 0,I 0,I 0,I 0,I 0,I 0,I 0,I 0,I 0,I 0,I 0,B false,I 0,(),(),(),(),I 0]) (w2:=wr) ii (.tmp 67) (.tmp 70) 35 rfl underlying35 gi RO ai RQ ii dX dX ii ii cj0 (.slice ga j gc) j ii nv wr ii ii oX qq ?_));intro g cp w5 tn jE lN
  have HP:Hid (∃A cap c',(∀k,k≠(Sum.inl .gs:bH ⊕ CK)->A k=Hz k/\cap k=Nn k)/\cN w w (w5.setCell ⟨y,3,none⟩ (.slice g (j+1) cp)) (up A (Sum.inl .gs) g) TY (up cap (Sum.inl .gs) cp) c'/\(∀k,k≠(Sum.inl .gs:bH ⊕ CK)->k≠Sum.inl .aQ->c' k=C k)/\c' (Sum.inl .aQ)=(C (Sum.inl .aQ)).set 3 (.slice g (j+1) cp)/\c' (Sum.inl .gs)=bT (λi l=>aW0 (GN i l)) 0 (p.take j)++AG (GN j l))/\
    w5.cell? ⟨y,3,none⟩=some (.slice ga j gc)/\w5.frozen? ⟨y,3,none⟩=false:=by
   obtain⟨A,cap,c',X,mP⟩:=Z3.out;have X2:rV w w (wr.alloc (.cells #[Value.slice la ln lc,I 0,I 0,I 0,B false,I 0,B false,I 0,I 0,I 0,I 0,I 0,I 0,I 0,I 0,I 0,I 0,I 0,B false,I 0,(),(),(),(),I 0] 100)) p (Sum.inl .gs) (Sum.inl .aQ) GN y Hz TY Nn C j ga gc A cap c':={X with own:=X.own.alloc _};rw[mP]at tn;obtain⟨c2,o1,o2,o3,o4,o5,o6⟩:=X2.push (l:=l) sX UC jE (by simpa using lN) (by rw[HH.out];exact tn);exact⟨⟨A,cap,c2,X.yf,o1,o2,o3,o4⟩,o5 _ (UP _),o6⟩
  obtain⟨Nq,d3,Yi⟩:=HP;have Nq:=ag Nq;clear tn jE lN Z3 nv c3 dj;obtain⟨w6,Q6⟩:=dC (w5.setCell ⟨y,3,none⟩ (.slice g (j+1) cp));rw[<-Q6]at Nq
  have a7:Hid (gt 84 #[y,I j] w6 λe w'=>e=Value.tuple #[]/\w'=w6.drew.setCells g (j*25) (aW0 (.slice la ln lc))):=by
   obtain⟨A,cap,c',q0,q1,q2,q3,q4⟩:=Nq.out;refine Lt y g j (j+1) cp la ln lc w6 oX oX ?_ (λq v hq=>?_) (q1.frozen (k:=Sum.inl .gs) (ub))
   .refine q1.cell (k:=Sum.inl .aQ) (by rw[aD sX,(q0 _ sX).1];exact TD) ?_;rw[q3];exact UP _
   refine q1.cell (k:=Sum.inl .gs) (ub) ?_;rw[q4,Ew (by rw[aV9 (k:=25) (λ_ _=>rfl),tC];rw[<-Hn.out];omega),aV9 (k:=25) (λ_ _=>rfl),tC,<-Hn.out,ar3 hj,HH.out,Nat.add_sub_cancel_left];exact hq
  have a8:=ag Q6;clear Q6;go_wp2_with (go_at_call 84;rw[<-a8.out];refine a7.out.mono ?_;rintro e w7 ⟨rfl,Q7⟩;have a9:=ag Q7;clear Q7);have HN:Hid (∃A cap c,rV w w w7 p (Sum.inl .gs) (Sum.inl .aQ) GN y Hz TY Nn C (j+1) g cp A cap c):=by obtain⟨A,cap,c',q0,q1,q2,q3,q4⟩:=Nq.out;have:=rV.clear (H:=GN) HL sX TD q0 q1 q2 q3 q4;rw[HH.out]at this;rw[a9.out];exact this
  clear Nq a7 a9 a8;go_roundw
  case rel=>exact⟨j+1,_,_,cj8,oX,HN⟩
  simp[intOf];omega
 obtain rfl:j=n:=oX
 go_wp2;go_ret2;obtain⟨A,cap,c,X⟩:=HX.out;obtain⟨rfl,rfl,rfl,rfl,rfl⟩:=al.out;obtain⟨F,m,hF,R⟩:=Ua Hn.out Xe h8.1 HC X af;exact⟨F,m,by rw[hF];rfl,R,X.own.below⟩
theorem kH{p:be}(h:im p):(1<=p.length/\p.length<=8)/\CQ p/\V.aY4 p:=by
 unfold im at h;simp only[qs,lm,ak6]at h;obtain⟨⟨d,m⟩,f⟩:=h;have n:∀j,p.getD j []=[]\/p.getD j []∈p:=λj=>cp2
 have g:∀l∈p,∀o∈l,V.Vz o/\o.cases.length<=6:=λl b o a=>by have:=(d l b).1 o a;unfold yF at this;simp only[qs,ay2,lm,Bool.not_eq_true',ak6]at this;obtain⟨⟨⟨⟨⟨⟨⟨⟨⟨⟨⟨⟨⟨q,r⟩,s⟩,t⟩,u⟩,v⟩,C⟩,D⟩,i⟩,w⟩,x⟩,y⟩,z⟩,A⟩:=this;refine⟨⟨⟨q,r⟩,⟨s,t⟩,⟨u,v⟩,i,λc B=>?_⟩,i⟩;have:=A c B;unfold qg at this;grind
 refine⟨⟨m,f⟩,⟨oX,λj=>?_,λj k o a=>?_⟩,⟨f,λl b=>(d l b).2,λl b o a=>(g l b o a).1⟩⟩
 .grind
 rcases n j with e|e
 .rw[e]at a;cases a
 have:=(g _ e o (lf a)).2;omega
section
variable(p:be)(n:Nat)(hn:n=p)(a:am)(ca:Nat)
include p n hn a ca
theorem GO(x y:Int)(l:am)(m o:Nat)(w:World)(d:aH1 w a p)(f:im p)(g:nK x n y=false):gt 43 #[(a,n,ca),.agg #[x,y],(l,m,o)] w (eL (.tuple #[.pointer none,I 1]) (Below w w)):=by
 have q:=ag (λW (b:Below w w W)=>xh p n hn a ca W (d.below b cG) f);have r:=ag (λW=>Hr x n y g W);have i:Hid (Below w w (w.alloc (.cells #[I x,I y] 24))):=(fp).alloc cG _;have j:(w.alloc (.cells #[I x,I y] 24)).heap[w.heap.size]?=some (.cells #[I x,I y] 24 (0,0)):=dP;have k:=ag j;clear hn d f g j;go_enter func43,ntmps43
 go_wp2_with (first
  |(go_at_call 77;refine(q _ i.out).mono ?_;rintro e c ⟨rfl,b⟩;have t:c.cell? w.heap.size=I x:=(by rw[cr ((b.block _ sX).trans k.out)];rfl);have c1:c.cell? (w.heap.size,1)=I y:=(by rw[cr ((b.block _ sX).trans k.out)];rfl);have s:Hid (Below w w c):=i.out.trans (b.mono sX);clear b)
  |(go_at_call 78;refine(r _).mono ?_;rintro e u ⟨rfl,rfl⟩))
 go_ret2;exact⟨ii,s⟩
theorem Ea(N most:Nat)(b:ce)(c:Nat)(o:c=b)(d:am)(i:Nat)(w:World)(j:aH1 w a p)(k:im p)(f:nK N n most)(q:Rd .u16 w d b)(g:c<=300)(r:∀z∈b,0<=z/\z<=65535):gt 43 #[(a,n,ca),.agg #[I N,I most],(d,c,i)] w λe l=>∃F m,e=Value.tuple #[F.aQ,I 0]/\bz w F l m (V.gj p N most b)/\Below w w l:=by
 obtain⟨v,s,_⟩:=kH k;have t:N<=64:=by unfold nK at f;simp only[qs,lm]at f;omega
 exact GM p n hn a ca N most b c o d i w j s oX t f q g r λW u=>xh p n hn a ca W (j.below u cG) k
theorem bq1(x y:Int)(c:am)(d f:Nat)(w:World)(g:aH1 w a p)(i:im p)(j:nK x n y=false):gt 23 #[(a,n,ca),.agg #[x,y],(c,d,f)] w (eL (.tuple #[.pointer none,I 1]) (Below w w)):=by
 have b:Below w w (w.alloc (.cells #[I x,I y] 24)):=(fp).alloc cG _;have l:=ag (GO p n hn a ca x y c d f (w.alloc (.cells #[I x,I y] 24)) (g.below b cG) i j);have m:=ag b;clear hn g i j b;go_enter func23,ntmps23;go_wp2_with (go_at_call 43;refine l.out.mono ?_;rintro e o ⟨rfl,k⟩;have q:Hid (Below w w o):=m.out.trans (k.mono sX);clear k);go_ret2;exact⟨ii,q⟩
theorem Ai(N most:Nat)(c:ce)(f:Nat)(o:f=c)(k:am)(q:Nat)(w:World)(s:aH1 w a p)(t:im p)(u:nK N n most)(v:Rd .u16 w k c)(d:f<=300)(x:∀z∈c,0<=z/\z<=65535):gt 23 #[(a,n,ca),.agg #[I N,I most],(k,f,q)] w λe l=>∃F m g,e=Value.tuple #[.pointer (some ⟨g,0,none⟩),I 0]/\bz (w+1) F l m (V.gj p N most c)/\Below w w l/\l.heap[g]?=some (.cells #[F.aQ] 78 (0,0))/\w<=g/\∀r,m.aV r≠g:=by
 have i:Below w w (w.alloc (.cells #[I N,I most] 24)):=(fp).alloc cG _;have C:=ag (Ea p n hn a ca N most c f o k q (w.alloc (.cells #[I N,I most] 24)) (s.below i cG) t u (v.below i cG) d x);have D:=ag i;clear hn s t u i o v d x;go_enter func23,ntmps23;go_wp2_with (go_at_call 43;refine C.out.mono ?_;rintro e y ⟨F,m,rfl,R,j⟩;have A:Hid (Below w w y):=D.out.trans (j.mono sX);have E:=ag R;clear j R);go_ret2;have B:=A.out.size;have R:=E.out;rw[show(w.alloc (.cells #[I N,I most] 24)).heap.size=w.heap.size+1 by simp]at R;exact⟨F,m,y.heap.size,ii,R.heap (λr b j=>gf _ _ _ (R.lt j)),A.out.alloc B _,dP,B,λr e=>aX (R.lt e) oX⟩
end
def jR(p:be)(x y:Int):Int:=if im p then(if nK x p y then 0 else 1)else 3
theorem iy.start{y:Int}{D:Value}{Z:dl}(a:Z.size=12)(c:Below (v+2) ((v.alloc (.cells #[Y,y] 24)).alloc (.cells Z 41)) u):iy v v (u.alloc (.cells #[Y,y,I 0,(),(),(),(),(),I 0,D,I 0,()] 41)) u v (v+1) Y y D () () () 0 0 0:=by
 have s1:(v.alloc (.cells #[I Y,I y] 24)).heap.size=v.heap.size+1:=sX
 have d:((v.alloc (.cells #[I Y,I y] 24)).alloc (.cells Z 41)).heap.size=v.heap.size+2:=sX
 have e:=cN.nil v v cG bp9;have f:=e.add (r:=.cf) (b:=v.heap.size) (cp:=0) (xs:=[I Y,I y]) (w':=v.alloc (.cells #[I Y,I y] 24)) ((fp).alloc cG _) cG (fF (dP) ii (λp h=>by simp[bp9]at h));have g:=f.add (r:=.rs) (b:=v.heap.size+1) (cp:=1) (xs:=Z.toList) (w':=(v.alloc (.cells #[I Y,I y] 24)).alloc (.cells Z 41)) ((fp).alloc cG _) (by rw[s1];exact rx _) (fF (t:=41) cr5 ii (λp h=>by simp[bp9]at h;subst h;exact⟨ii,by rw[a];rfl,dX⟩));have i:=(g.eC (by rw[d];exact c)).add (r:=.st) (b:=u.heap.size) (cp:=0) (xs:=[I Y,I y,I 0,(),(),(),(),(),I 0,D,I 0,()]) (w':=u.alloc (.cells #[I Y,I y,I 0,(),(),(),(),(),I 0,D,I 0,()] 41)) ((fp).alloc cG _) cG (fF (dP) ii (λp h=>by simp[bp9]at h));refine⟨_,_,_,i,?_,?_,?_,?_,?_,?_,?_,?_,?_,?_,?_,?_⟩<;>simp[up,nG,a]
theorem iy.push{n:Nat}{c:Value}{wr:World}{g a:Nat}{P:World->Nat->Nat->Prop}(d:us.size=cp)(e:∀(v:World) (g a:Nat) (us:bi),us=cp->(wr.alloc (us.toArray,z)).grownBy v c.ownBlock->v.ownsRow b z cp (g,n+1,a) (n+1) (J++us)->(c.ownBlock=g\/(wr.alloc (us.toArray,z)).heap.size<=g)->P v g a)(h:v.ownsRow b z cp (g,n+1,a) (n+1) (J++us.toList)/\(wr.alloc (us,z)).grownBy v c.ownBlock/\(c.ownBlock=g\/(wr.alloc (us,z)).heap.size<=g)):P v g a:=
 e v g a us.toList (by simpa using d) h.2.1 h.1 h.2.2
theorem Q8(args:dl)(w:World):(callFunc 45 args).run prog w=.ok (.enter 45 args) w:=by
 have b : (Tryz.f45.name == "runtime.NumGoroutine") = false := kX
 have b : ¬ Tryz.f45.name = "runtime.NumGoroutine" := by simpa using b
 have a:Tryz.f45.body.isNone=false:=kX
 have a:¬Tryz.f45.body=none:=λh=>by rw[h]at a;cases a
 simp[callFunc,func45,go_sem,b,a]
theorem GP(p:be)(n:Nat)(hn:n=p)(a:am)(ca:Nat)(x y:Int)(z:am)(A C:Nat)(w:World)(h1:aH1 w a p):gt 24 #[(a,n,ca),.agg #[x,y],(z,A,C)] w λe w'=>∃T:dl,T.size=12/\T.all (·.oneCell')/\e=Value.tuple #[.agg T,(jR p x y)]/\Below w w w':=by
 obtain⟨iG,gi,RO,a7,RQ⟩:=AC uS;obtain⟨iS,si,a8,a9,ab⟩:=AC xU;obtain⟨iV,vi,ad,ae,af⟩:=AC NS;have aq:n<=9223372036854775807:=cx4
 have j8:∀i,i<n->∃b off r ln lc,a=some ⟨b,off,none⟩/\b<w.heap.size/\w.cell? ⟨b,off+i,none⟩=some (.slice r ln lc):=λi hi=>by have U:p[i]?=some (p[i]' oX):=fv _;obtain⟨b,off,r,c,h2,h3,h4⟩:=h1.2 i _ U;exact⟨b,off,r,_,c,h2,ba0 w _ h3,h3⟩
 have HC:=ag j8;have a2:Hid (im p=true->n<=8):=λh=>by grind [kH]
 have HX:Hid (nK x n y=true->0<=x/\x<=64):=λh=>by unfold nK at h;simp only[qs,lm]at h;omega
 have Ap:Hid (∀W,Below w.heap.size w W->gt 22 #[.slice a n ca] W λe w'=>e=.returned (.bool (im p))/\Below W.heap.size W w'):=λW m=>Ad p n hn a ca W (h1.below m cG)
 have Ah:=ag (λW=>Hp x n y W);have HN:=ag hn;clear h1 j8 hn;go_enter func24,ntmps24;go_upto_region 1 with fail
 obtain⟨l,fA⟩:∃b,b=w.heap.size+1:=⟨_,ii⟩;obtain⟨t,fP⟩:∃b,b=w.heap.size:=⟨_,ii⟩;obtain⟨X,Xg⟩:∃W,W=(w.alloc (.cells #[I x,I y] 24)).alloc (.cells zT 41):=⟨_,ii⟩;rw[<-fA,<-fP];change Code.wp _ _ _ _ ((w.alloc (.cells #[I x,I y] 24)).alloc (.cells zT 41));rw[<-Xg];have s1:(w.alloc (.cells #[I x,I y] 24)).heap.size=w.heap.size+1:=sX
 have sA:X.heap.size=w.heap.size+2:=by rw[Xg];simp
 have hB:Below w.heap.size w X:=by rw[Xg];exact((fp).alloc cG _).alloc ck7 _
 have a3:X.heap[l]?=some (.cells zT 41 (0,0)):=by rw[Xg,fA,<-s1];exact dP
 have a4:X.heap[t]?=some (.cells #[I x,I y] 24 (0,0)):=by rw[Xg,fP];exact(gf _ _ _ ck7).trans (dP)
 have Ve:Hid (X=(w.alloc (.cells #[I x,I y] 24)).alloc (.cells zT 41)/\l=w.heap.size+1/\t=w.heap.size/\X.heap.size=w.heap.size+2):=⟨Xg,fA,fP,sA⟩;have Yj:=ag (dO a3 a4);have RR:=ag hB;clear Xg fA fP s1 sA hB a3 a4;have Ot:=ag (Ap.out X RR);clear Ap;have a5:∀(f:World) (T:dl),T.size=12->Below X.heap.size X f->Below w.heap.size w (f.setCells l 0 T.toList)/\(f.setCells l 0 T.toList).heap[l]?=some (.cells T 41 (0,0)):=λf T fa m=>by obtain⟨_,h2,h3,h4⟩:=Ve.out;have hz:f.heap[l]?=some (.cells zT 41 (0,0)):=(m.block l oX).trans Yj.out.1;exact⟨Below.setCells oX _ _ _ (RR.out.trans (m.mono oX)),dI hz (by rw[fa];rfl)⟩
 have yV:=ag a5;clear a5
 cases U:im p with
 |false=>
  have HE:Hid (jR p x y=3):=by show jR p x y=3;unfold jR;rw[U];rfl
  rw[U]at Ot
  go_wp2_with (first
   |(go_at_call 22;refine Ot.out.mono ?_;rintro e f ⟨rfl,m⟩;have pH:=ag m;have hz:f.heap[l]?=some (.cells zT 41 (0,0)):=(m.block l cv5).trans Yj.out.1;have Ue:=ag hz;clear m hz)
   |(refine JS ii 41 (.tmp 6) (.tmp 15) ii l 0 zT ii ii nQ.2 (λq hq=>by rw[wl,cr Ue.out,xL hq];rfl) (λq hq=>iM _ _ _ Ue) cj0 ?_))
  refine aV4 ii ii (yV f zT ii pH).2 nQ ?_;exact⟨zT,ii,cj0,by rw[HE.out];rfl,(yV f zT ii pH).1⟩
 |true=>
  rw[U]at Ot;have ar:=a2.out U
  cases gI:nK x n y with
  |false=>
   have HE:Hid (jR p x y=1):=(by show jR p x y=1;unfold jR;rw[U,<-HN.out,gI];rfl);rw[gI]at Ah
   go_wp2_with (first
    |(go_at_call 22;refine Ot.out.mono ?_;rintro e f ⟨rfl,m⟩;have pH:=ag m;have hz:f.heap[l]?=some (.cells zT 41 (0,0)):=(m.block l cv5).trans Yj.out.1;have hc:f.heap[t]?=some (.cells #[I x,I y] 24 (0,0)):=(m.block t cv5).trans Yj.out.2;have k0:f.cell? ⟨t,0,none⟩=some (I x):=(by rw[cr hc];rfl);have k1:f.cell? ⟨t,1,none⟩=some (I y):=(by rw[cr hc];rfl);have Ue:=ag hz;clear m hz hc)
    |(go_at_call 44;refine(Ah _).mono ?_;rintro e w2 ⟨rfl,rfl⟩)
    |(refine JS ii 41 (.tmp 6) (.tmp 24) ii l 0 zT ii ii nQ.2 (λq hq=>by rw[wl,cr Ue.out,xL hq];rfl) (λq hq=>iM _ _ _ Ue) cj0 ?_))
   refine aV4 ii ii (yV f zT ii pH).2 nQ ?_;exact⟨zT,ii,cj0,by rw[HE.out];rfl,(yV f zT ii pH).1⟩
  |true=>
   have HE:Hid (jR p x y=0):=(by show jR p x y=0;unfold jR;rw[U,<-HN.out,gI];rfl);obtain⟨Hm,ah⟩:=HX.out gI;obtain⟨N,rfl⟩:∃N:Nat,x=N:=⟨x.toNat,oX⟩;have au:N<=64:=oX;rw[gI]at Ah;clear Hm ah U gI HX a2
   go_wp2_with (first
    |(go_at_call 22;refine Ot.out.mono ?_;rintro e f ⟨rfl,m⟩;have pH:=ag m;have hc:f.heap[t]?=some (.cells #[I N,I y] 24 (0,0)):=(m.block t cv5).trans Yj.out.2;have k0:f.cell? ⟨t,0,none⟩=some (I N):=(by rw[cr hc];rfl);have k1:f.cell? ⟨t,1,none⟩=some (I y):=(by rw[cr hc];rfl);clear m hc)
    |(go_at_call 44;refine(Ah _).mono ?_;rintro e w2 ⟨rfl,rfl⟩))
   have H0:Hid (iy w.heap.size w (f.alloc (.cells #[I N,I y,I 0,.slice none 0 0,.slice none 0 0,.slice none 0 0,.slice none 0 0,.slice none 0 0,I 0,.slice z A C,I 0,.slice none 0 0] 41)) f.heap.size t l N y (.slice z A C) (.slice none 0 0) (.slice none 0 0) (.slice none 0 0) 0 0 0):=(by obtain⟨e1,e2,e3,e4⟩:=Ve.out;rw[e2,e3];refine iy.start (Z:=zT) ii ?_;grind [Hid.out]);obtain⟨d,mB⟩:∃b,b=f.heap.size:=⟨_,ii⟩;rw[<-mB]at H0 ⊢;clear k0 k1 pH mB Ah Ot Yj Ve RR HN;go_loopw [30] (λi wr=>∃(j:Nat) (G:am) (H:Nat) (D:am) (F:Nat),i=.int .i64 j/\j<=n/\Hid (iy w.heap.size w wr d t l N y (.slice z A C) (.slice G j H) (.slice none 0 0) (.slice D j F) j 0 j)) (λi _=>n-(intOf i).toNat)
   case atStart=>exact⟨0,none,0,none,0,ii,oX,H0⟩
   clear H0;obtain⟨j,G,H,D,F,rfl,hj,u⟩:=hrel;by_cases dD:j<n
   .obtain⟨b,off,la,ln,lc,rfl,Ta,j8⟩:=HC.out j dD;have ai:=cw u.out.uw.1 cG _ _ j8;have c3:=u.out.cells.1 3 _ ii;have HF:=ag (λ(ak:Array Oper) (o:Oper) (ac:Act) (K:Act->World->Prop) (Q:Exit->Act->World->Prop) (E:Prop) (W:World) (nX:o.guard=none) (ho:o.op=.call {callee:=.value (.func 45),args:=#[.tmp 36,.const (.int .i64 0)],argTypes:=#[50,3]}) (ha:(#[.tmp 36,.const (.int .i64 0)]:Array Operand).map ac.eval=#[.slice la ln lc,I 0]) (hB:Below wr.heap.size wr W) (hK:∀f,Below W.heap.size W f->K (ac.put o.dst (.agg (NC la ln lc))) f)=>bc8 (P:=prog) (ops:=ak) (o:=o) (a:=ac) (w:=W) (K:=K) (Q:=Q) (E:=E) nX 45 _ _ ho (λargs=>Q8 args W) _ ha _ (AV la ln lc W) (λe w' h=>by obtain⟨he,h1⟩:=h;exact⟨.agg (NC la ln lc),he,hK w' h1⟩));clear j8;go_upto_region 9 with fail
    clear ai
    go_region_law
     (first
      |(refine HF _ _ _ _ _ _ _ ii ii ck2 (by first|exact fp|exact(fp).drew) ?_;intro w2 m;have Ou:=ag ((u.out.eC (fp).drew).eC m);have d3:=Ou.out.cells.1 3 _ ii;have Yi:=Ou.out.cells.2.1 3;have ld:=Ou.out.cells.2.2.1;have HG:=ag Ou.out.gs;clear m)
      |(obtain⟨xs,k,cM,cP,Kw⟩:=HG.out;have qq:=Ou.out.uw.2;have J:=ag (dO cM (dO cP Kw));have HO:=ag k;clear k cM cP Kw HG;refine qR (us:=(NC la ln lc)) (w2:=w2) ii (.tmp 35) (.tmp 38) 35 rfl underlying35 gi RO a7 RQ ii dX dX ii ii cj0 (.slice G j H) j ii HO ii oX qq ?_;clear HO;intro gg hU w9 jl bX bE;have kz:(w2.alloc (.cells (NC la ln lc) 100)).grownBy w9 (Value.slice G j H).ownBlock:=lZ bX ii ii ii ii;have L:w9.heap[d]?=w2.heap[d]?:=(by rw[kz.block d ci8 (λe=>J.out.1 e.symm),gf _ _ _ ld]);have z3:w9.cell? ⟨d,3,none⟩=some (.slice G j H):=(kZ L).trans d3;have al:w9.frozen? ⟨d,3,none⟩=false:=(xp L).trans Yi;have H9:=bY4;clear jl bX bE kz L)
      | fail "no arm")
    all_goals
     have Yk:Hid (iy w.heap.size w (w9.setCell ⟨d,3,none⟩ (.slice (some ⟨gg,0,none⟩) (j+1) hU)) d t l N y (.slice z A C) (.slice (some ⟨gg,0,none⟩) (j+1) hU) (.slice none 0 0) (.slice D j F) (j+1) 0 j):=Ou.out.gs2 ii J.out.2 H9;obtain⟨S,Q9⟩:∃W,W=w9.setCell ⟨d,3,none⟩ (.slice (some ⟨gg,0,none⟩) (j+1) hU):=⟨_,ii⟩;rw[<-Q9]at Yk ⊢;clear Q9 H9 z3 al J qq ld d3 Yi Ou HF c3 HC Ta u;have c6:=Yk.out.cells.1 6 _ ii;have f6:=Yk.out.cells.2.1 6;have NB:=Yk.out.cells.2.2.1;have KG:Hid (iy w.heap.size w (S.alloc (.cells #[] 3)) d t l N y (.slice z A C) (.slice (some ⟨gg,0,none⟩) (j+1) hU) (.slice none 0 0) (.slice D j F) (j+1) 0 j):=Yk.out.alloc _;obtain⟨ao,fu,M,sl,Aj⟩:=KG.out.ca;have e6:=KG.out.cells.1 6 _ ii;have g6:=KG.out.cells.2.1 6;have ld:=KG.out.cells.2.2.1;have qq:=KG.out.uw.2;have HO:=ag fu;have J:=ag (dO M (dO sl Aj));have Q9:Hid ((S.alloc (.cells #[] 3)).heap.size=S.heap.size+1):=(by simp:(S.alloc (.cells #[] 3)).heap.size=S.heap.size+1);clear fu M sl Aj;go_wp2_with (at_builtin;go_loud (refine gY (us:=#[.slice (some ⟨S.heap.size,0,none⟩) 0 0]) (w2:=S.alloc (.cells #[] 3)) ii (.tmp 42) (.tmp 44) 38 rfl underlying38 vi ad ae af ii dX dX ii ii cj0 (.slice D j F) j ii HO (S.heap.size+1) (Q9.out.symm) ii oX qq ?_);clear HO;intro gx O Y k jE lN;have L:Y.heap[d]?=(S.alloc (.cells #[] 3)).heap[d]?:=(by rw[jE.block d ci8 (λe=>J.out.1 e.symm),gf _ _ _ ld]);have z6:Y.cell? ⟨d,6,none⟩=some (.slice D j F):=(kZ L).trans e6;have a0:Y.frozen? ⟨d,6,none⟩=false:=(xp L).trans g6;have R:=ag (dO k (dO jE lN));clear k jE lN L)
     have a1:Hid (iy w.heap.size w (Y.setCell ⟨d,6,none⟩ (.slice (some ⟨gx,0,none⟩) (j+1) O)) d t l N y (.slice z A C) (.slice (some ⟨gg,0,none⟩) (j+1) hU) (.slice none 0 0) (.slice (some ⟨gx,0,none⟩) (j+1) O) (j+1) 0 (j+1)):=
      iy.push (us:=#[.slice (some ⟨S.heap.size,0,none⟩) 0 0]) (P:=λW g cp=>iy w.heap.size w (W.setCell ⟨d,6,none⟩ (.slice (some ⟨g,0,none⟩) (j+1) cp)) d t l N y (.slice z A C) (.slice (some ⟨gg,0,none⟩) (j+1) hU) (.slice none 0 0) (.slice (some ⟨g,0,none⟩) (j+1) cp) (j+1) 0 (j+1)) ii J.out.2.2 R
     clear R J KG Yk z6 a0 e6 g6 c6 f6 NB ld qq Q9;go_roundw
     case rel=>exact⟨j+1,_,_,_,_,cj8,oX,a1⟩
     simp[intOf];omega
   obtain rfl:j=n:=oX
   go_wp2;go_loopw [11] (λi wr=>∃(s:Nat) (S:am) (sc:Nat),i=.int .i64 s/\s<=N/\Hid (iy w.heap.size w wr d t l N y (.slice z A C) (.slice G j H) (.slice S s sc) (.slice D j F) j s j)) (λi _=>N-(intOf i).toNat)
   case atStart=>exact⟨0,none,0,ii,oX,u⟩
   clear u;obtain⟨s,S,sc,rfl,hs,u⟩:=hrel;have k0:=u.out.cells.2.2.2.1;by_cases rT:s<N
   .have NB:=u.out.cells.2.2.1;have e6:=u.out.cells.1 5 _ ii;have g6:=u.out.cells.2.1 5;have qq:=u.out.uw.2;obtain⟨ao,fu,M,sl,Aj⟩:=u.out.su;have HO:=ag fu;have J:=ag (dO M (dO sl Aj));clear fu M sl Aj;go_wp2_with (at_builtin;go_loud (refine gY (us:=#[B false,I 0,I 0,I 0,B false,I 0,B false]) (w2:=wr) ii (.tmp 55) (.tmp 57) 37 rfl underlying37 si a8 a9 ab ii dX dX ii ii cj0 (.slice S s sc) s ii HO wr.heap.size (rfl) ii oX qq ?_);clear HO;intro gx O Y k jE lN;have L:Y.heap[d]?=(wr).heap[d]?:=(by rw[jE.block d ci8 (λe=>J.out.1 e.symm),gf _ _ _ NB]);have z6:Y.cell? ⟨d,5,none⟩=some (.slice S s sc):=(kZ L).trans e6;have a0:Y.frozen? ⟨d,5,none⟩=false:=(xp L).trans g6;have R:=ag (dO k (dO jE lN));clear k jE lN L)
    have a1:Hid (iy w.heap.size w (Y.setCell ⟨d,5,none⟩ (.slice (some ⟨gx,0,none⟩) (s+1) O)) d t l N y (.slice z A C) (.slice G j H) (.slice (some ⟨gx,0,none⟩) (s+1) O) (.slice D j F) j (s+1) j):=
     iy.push (us:=#[B false,I 0,I 0,I 0,B false,I 0,B false]) (P:=λW g cp=>iy w.heap.size w (W.setCell ⟨d,5,none⟩ (.slice (some ⟨g,0,none⟩) (s+1) cp)) d t l N y (.slice z A C) (.slice G j H) (.slice (some ⟨g,0,none⟩) (s+1) cp) (.slice D j F) j (s+1) j) ii J.out.2.2 R
    clear R J z6 a0 e6 g6 NB qq k0 u;go_roundw
    case rel=>exact⟨s+1,_,_,cj8,oX,a1⟩
    simp[intOf];omega
   obtain rfl:s=N:=oX
   obtain⟨⟨Z,tz,hZ,a6⟩,ja⟩:=u.out.res;have Yl:=ag (dO hZ (dO a6 ja));clear hZ a6 ja;go_upto_region 16 with fail
   refine as8 ?_;refine wpList_load_mid ii 41 (.tmp 8) ii d 0 rfl #[I s,I y,I 0,.slice G j H,.slice none 0 0,.slice S s sc,.slice D j F,.slice none 0 0,I 0,.slice z A C,I 0,.slice none 0 0] (λq v hv=>by rw[wl];rw[<-bH7]at hv;exact u.out.cells.1 q v hv) nQ.1 nQ.2 ?_;refine JS ii 41 (.tmp 6) (.tmp 60) ii l 0 #[I s,I y,I 0,.slice G j H,.slice none 0 0,.slice S s sc,.slice D j F,.slice none 0 0,I 0,.slice z A C,I 0,.slice none 0 0] ii ii nQ.2 (λq hq=>by rw[wl,cr Yl.out.2.1,xL (by rw[Yl.out.1];exact hq)];rfl) (λq hq=>iM _ _ _ Yl.out.2.1) cj0 ?_;go_wp2;have iw:=dI (cs:=#[I s,I y,I 0,.slice G j H,.slice none 0 0,.slice S s sc,.slice D j F,.slice none 0 0,I 0,.slice z A C,I 0,.slice none 0 0]) Yl.out.2.1 (by rw[Yl.out.1];rfl);refine aV4 ii ii iw nQ ?_;exact⟨#[I s,I y,I 0,.slice G j H,.slice none 0 0,.slice S s sc,.slice D j F,.slice none 0 0,I 0,.slice z A C,I 0,.slice none 0 0],ii,cj0,by rw[HE.out];rfl,Below.setCells Yl.out.2.2 _ _ _ u.out.uw.1⟩