import Derived.Test.YtadifmnmfnihdaaGreatA05
set_option linter.all false
set_option maxRecDepth 100000
set_option maxHeartbeats 40000000
namespace Go.Proofs.YtadifmnmfnihdaaGreat
open Mach
variable{n z p:Nat}{N:ap}{e O:bI}{t S':Wd}{v u f w' w2:World}{D:Mem}{us c2:dl}{Y:Int}{T sd:fE}{J:bi}{A:am}
namespace V
def BC(l:bv):Int:=match l.head? with|some x=>x|none=> -1
def CD(l:bv):Int:=match l.getLast? with|some x=>x|none=> -1
theorem CE:BC []= -1:=rfl
theorem lF(x:Nat)(l:bv):BC (x::l)=x:=rfl
theorem CF:CD []= -1:=rfl
theorem jx(l:bv)(x:Nat):CD (l++[x])=x:=by simp[CD]
theorem nY(a b:bv):BC (a++b)=if a=[]then BC b else BC a:=by cases a<;>simp[BC]
theorem xP(a b:bv):CD (a++b)=if b=[]then CD a else CD b:=by
 rcases ym b with rfl|⟨c,y,rfl⟩
 .simp
 grind [jx]
theorem Sj{l:bv}(h:CD l= -1):l=[]:=by
 rcases ym l with rfl|⟨a,y,rfl⟩
 .rfl
 grind [jx]
structure xQ(q:er)(ls:ap):Prop where
 len:q.bM=ls.length
 line:∀(k:Nat) l,ls[k]?=some l->q.bM[k]?=some {first:=BC l,last:=CD l,count:=l}
 thing:∀(k:Nat) (a b:bv) x,ls[k]?=(a++x::b)->q.aS[x]?=some {pX:=k,behind:=BC b,ahead:=CD a}
 out:∀(x:Nat) t,q.aS[x]?=some t->(∀(k:Nat) l,ls[k]?=some l->x ∉ l)->t={}
 nodup:∀(k:Nat) l,ls[k]?=some l->l.Nodup
theorem jy:∀(n:Nat) (l:bv),l.Nodup->(∀x∈l,x<n)->l<=n
 |0,l,_,h=>by
  cases l with
  |nil=>simp
  |cons x l=>exact aX (h x sX) oX
 |n+1,l,b,h=>by
  by_cases c:n∈l
  .have g:=List.length_erase_of_mem c
   have i:=jy n (l.erase n) (b.erase n) (λx a=>by
    have d:=h x (bH3 a);have f:x≠n:=λe=>by rw[e]at a;exact(b.mem_erase_iff.1 a).1 rfl
    omega)
   omega
  exact as3 (jy n l b (λx a=>by
   have d:=h x a;have f:x≠n:=λe=>c (e▸a)
   omega))
section
variable{q:er}
theorem xQ.lt(Q:xQ q N){k:Nat}{l:bv}(h:N[k]?=l)(c:n∈l):n<q.aS:=by
 obtain⟨a,b,rfl⟩:=al8 c;exact(uC (Q.thing k a b n h)).1
theorem xQ.inj(Q:xQ q N){x:Nat}{l c:bv}(h:N[n]?=l)(d:x∈l)(f:N[z]?=c)(g:x∈c):n=z:=by
 obtain⟨a,b,rfl⟩:=al8 d;obtain⟨i,j,rfl⟩:=al8 g;have e:=(Q.thing n a b x h).symm.trans (Q.thing z i j x f);grind
theorem xQ.small(Q:xQ q N){l:bv}(h:N[n]?=l):l<=q.aS.length:=jy _ _ (Q.nodup n l h) λx a=>Q.lt h a
theorem xQ.first(Q:xQ q N)(k:Nat):q.first k=match N[k]? with|some (x::_)=>((x:Int),true)|_=>(0,false):=by
 unfold er.first idx;simp only[WF,dt,oU]
 cases h:N[k]? with
 |none=>
  have:q.bM[k]?=none:=by rw[ak8]at h ⊢;rw[Q.len];exact h
  simp[this]
 |some l=>
  rw[Q.line k l h]
  cases l with
  |nil=>simp
  |cons x l=>simp[lF];intro h;omega
theorem xQ.aS1(Q:xQ q N)(k:Nat):q.len k=((N[k]?).map (λl=>(l.length:Int))).getD 0:=by
 unfold er.len idx;simp only[WF,dt,oU]
 cases h:N[k]? with
 |none=>
  have:q.bM[k]?=none:=by rw[ak8]at h ⊢;rw[Q.len];exact h
  simp[this]
 |some l=>simp[Q.line k l h]
theorem rP{l a m:bv}(h:N[n]?=l)(b:(N.set n m)[z]?=a):(z=n/\a=m)\/(z≠n/\N[z]?=a):=by
 grind
theorem yB{l:bv}(h:N[n]?=l){m:bv}:(N.set n m)[n]?=m:=by
 grind
theorem AE{l:List nf}{t:nf}(h:l[n]?=t)(y:Nat)(a:nf):(l.set y a)[n]?=if y=n then some a else some t:=by
 grind
theorem xQ.push(Q:xQ q N){k x:Nat}{l:bv}(h:N[k]?=l)(K:x<q.aS)(w:∀(k:Nat) l,N[k]?=some l->x ∉ l)(T:q.aS.length<=1000):∃g,q.push k x=(g,true)/\xQ g (N.set k (l++[x]))/\g.aS=q.aS.length:=by
 obtain⟨t,o⟩:∃t,q.aS[x]?=some t:=⟨_,fv K⟩;have A:=Q.out x t o w;subst A;have G:=Q.line k l h;have U:=Q.small h;have p:x ∉ l:=w k l h;have L:k<q.bM.length:=um G;have M:kJ (l.length:Int)=true:=co2
 have key:∀g:er,g.bM=q.bM.set k {first:=BC (l++[x]),last:=(x:Int),count:=((l++[x]).length:Int)}->
   g.aS.length=q.aS.length->g.aS[x]?=some {pX:=k,behind:= -1,ahead:=CD l}->
   (∀a y,l=a++[y]->g.aS[y]?=some {pX:=k,behind:=x,ahead:=CD a})->
   (∀y,y≠x->(∀a,l≠a++[y])->g.aS[y]?=q.aS[y]?)->xQ g (N.set k (l++[x])):=by
  intro g B W O R C;have H:∀a y,l=a++[y]->y≠x:=λa y e D=>p (by rw[e,<-D];simp)
  refine⟨by rw[B];simp[Q.len],?_,?_,?_,?_⟩
  .intro f j d;rcases rP h d with⟨rfl,rfl⟩|⟨r,d⟩
   .rw[B,nH L,jx]
   rw[B,oA (dE r)];exact Q.line f j d
  .intro f a b y d;rcases rP h d with⟨rfl,e⟩|⟨r,d⟩
   .rcases ym b with rfl|⟨S,z,rfl⟩
    .have s:=bS8;obtain⟨rfl,m⟩:=s;simp only[as0,at6]at m;subst m;exact O
    rw[yn]at e ⊢;rw[<-sY,<-al2]at e;obtain⟨n,m⟩:=bS8;simp only[as0,at6]at m;subst m;have E:y≠z:=λD=>p (by rw[<-n,D];simp)
    rcases ym S with rfl|⟨F,u,rfl⟩
    .rw[R a y n.symm];simp[lF]
    rw[yn]at n ⊢;rw[C y E (λc i=>?_),Q.thing f a (F++[u]) y (by rw[h,n])]
    .rw[nY,nY (F++[u]),nY];simp
    have I:=Q.nodup f l h;rw[<-n]at I i;rw[<-sY,<-al2]at i;obtain⟨_,J⟩:=al4 i sX;simp only[as0,at6]at J;subst J;simp[tB]at I
   have m:y≠x:=λe=>w f _ d co9
   rw[C y m (λc i=>?_)]
   .exact Q.thing f a b y d
   exact r (Q.inj (x:=y) d sX h (by rw[i];simp))
  .intro y J E n;have m:y≠x:=λe=>n k _ (yB h) co9
   rw[C y m (λc i=>n k _ (yB h) (by rw[i];simp))]at E;refine Q.out y J E λf j d F=>?_
   by_cases I:f=k
   .subst I;rw[h]at d;cases d;exact n f _ (yB h) (by simp[F])
   exact n f j (by rw[oA (dE I)];exact d) F
  intro f j d;rcases rP h d with⟨rfl,rfl⟩|⟨r,d⟩
  .rw[tB];refine⟨Q.nodup f l h,sX,?_⟩;intro u E v n;simp at n;subst n;exact λe=>p (e▸E)
  exact Q.nodup f j d
 unfold er.push idx;simp only[WF,dt,oU,G,o];simp only[ne_eq,not_true_eq_false,dF,M,aH6];by_cases n:CD l= -1
 .have F:=Sj n;subst F;rw[aF n];refine⟨_,ii,key _ ?_ cn2 ?_ ?_ ?_,cn2⟩
  .simp[er.fJ,er.fe,BC]
  .simp only[er.fJ,er.fe];rw[AE o];simp[CF]
  .intro a y e;simp at e
  intro y m _;simp only[er.fJ,er.fe];rw[oA (dE m)]
 rw[aE n];rcases ym l with rfl|⟨a,y,rfl⟩
 .exact aX CF n
 rw[yn]at*;have I:=Q.thing k a [] y h;have F:y≠x:=λe=>p co9
 simp only[jx,nat?,WF,dt,oU,bW,eN,I,aE F];refine⟨_,ii,key _ ?_ cn2 ?_ ?_ ?_,cn2⟩
 .simp only[er.fJ,er.fe];congr 2
  .rw[nY (a++[y])];simp
  simp;omega
 .simp only[er.fJ,er.fe];rw[AE (AE o _ _ |>.trans (aF ii)),aE F,jx]
 .intro c u e;obtain⟨rfl,s⟩:=bS8;simp only[as0,at6]at s;subst s;simp only[er.fJ,er.fe];rw[AE (AE I x _ |>.trans (aE (dE F))),aF rfl]
 intro u E H;have J:u≠y:=λe=>H a cx5
 simp only[er.fJ,er.fe];rw[oA (dE J),oA (dE E)]
section
variable(Q:xQ q N){a b:bv}(h:N[n]?=(a++z::b))
include Q h
theorem xQ.CH{p:er}(C:p.bM=q.bM.set n {first:=BC (a++b),last:=CD (a++b),count:=((a++b).length:Int)})(M:p.aS=q.aS.length)(G:p.aS[z]?=some {})(H:∀c y,a=c++[y]->p.aS[y]?=some {pX:=n,behind:=BC b,ahead:=CD c})(I:∀y d,b=y::d->p.aS[y]?=some {pX:=n,behind:=BC d,ahead:=CD a})(w:∀y,y≠z->(∀c,a≠c++[y])->(∀d,b≠y::d)->p.aS[y]?=q.aS[y]?):xQ p (N.set n (a++b)):=by
 have fX:=Q.nodup n _ h;have J:n<q.bM.length:=(uC (Q.line n _ h)).1;have K:z ∉ a:=λi=>by rw[tB]at fX;exact fX.2.2 z i z sX ii
 have D:z ∉ b:=λi=>by rw[tB]at fX;exact(ar8.1 fX.2.1).1 i
 have r:∀y,y∈a->y∈b->False:=λy hy uO=>cx2
 have E:a.Nodup:=by rw[tB]at fX;exact fX.1
 have L:b.Nodup:=by rw[tB]at fX;exact(ar8.1 fX.2.1).2
 refine⟨by rw[C];simp[Q.len],?_,?_,?_,?_⟩
 .intro l t g;rcases rP h g with⟨rfl,rfl⟩|⟨s,g⟩
  .rw[C,nH J]
  rw[C,oA (dE s)];exact Q.line l t g
 .intro l A B y g;rcases rP h g with⟨rfl,e⟩|⟨s,g⟩
  .rcases List.append_eq_append_iff.1 e with⟨c,F,m⟩|⟨c,F,m⟩
   .cases c with
    |nil=>
     grind
    |cons f c=>
     simp only[sY,as0]at m;obtain⟨rfl,rfl⟩:=m;subst F;rcases ym c with rfl|⟨o,u,rfl⟩
     .rw[H A y rfl];simp
     rw[yn]at*;rw[w y (λe=>K (by rw[<-e];simp)) (λd j=>?_) (λd j=>r y sX (by rw[j];simp)),Q.thing l A (o++[u]++z::b) y cu4]
     .grind [nY]
     rw[<-sY,<-al2]at j;obtain⟨_,O⟩:=al4 j sX;grind
   subst F;rcases ym c with rfl|⟨o,u,rfl⟩
   .simp only[al0,at7]at m ⊢;rw[I y B m]
   rw[yn]at*;have f:y∈b:=(by rw[m];simp);rw[w y (λe=>D (e▸f)) (λd j=>r y (by rw[j];simp) f) (λd j=>?_),Q.thing l (a++z::(o++[u])) B y (by rw[h,m];simp)]
   .rw[xP a (o++[u]),show a++z::(o++[u])=(a++z::o)++[u]by simp,jx,jx];simp
   rw[j]at m
   cases o with
   |nil=>
    grind
   |cons v o=>
    grind
  have hy:y∈A++y::B:=sX
  rw[w y (λe=>s (Q.inj g hy h co9)) (λd j=>s (Q.inj g hy h (by rw[j];simp))) (λd j=>s (Q.inj g hy h (by rw[j];simp)))];exact Q.thing l A B y g
 .intro y B j o;by_cases hy:y=z
  .subst hy;rw[G]at j;cases j;rfl
  have f:=o n _ (yB h);rw[w y hy (λc m=>f (by rw[m];simp)) (λc m=>f (by rw[m];simp))]at j;refine Q.out y B j λl t g i=>?_
  by_cases A:l=n
  .subst A;rw[h]at g
   cases g;simp only[ae4,iL]at i f;rcases i with i|i|i
   .exact f (.inl i)
   .exact hy i
   exact f (.inr i)
  exact o l t (by rw[oA (dE A)];exact g) i
 intro l t g;rcases rP h g with⟨rfl,rfl⟩|⟨s,g⟩
 .rw[tB];exact⟨E,L,λu f v j e=>r u f (e▸j)⟩
 exact Q.nodup l t g
theorem xQ.ai3(M:q.aS.length<=1000):∃r,q.out z {pX:=n,behind:=BC b,ahead:=CD a}=some r/\xQ r (N.set n (a++b))/\r.aS=q.aS.length:=by
 have fX:=Q.nodup n _ h;have I:=Q.line n _ h;have O:=Q.small h;have i:z<q.aS.length:=Q.lt h sX;have R:n<q.bM.length:=um I;have J:kJ ((a++z::b).length:Int)=true:=by unfold kJ;simp only[qs,lm];omega
 have K:z ∉ a:=λs=>by rw[tB]at fX;exact fX.2.2 z s z sX ii
 have j:z ∉ b:=λs=>by rw[tB]at fX;exact(ar8.1 fX.2.1).1 s
 have v:∀y,y∈a->y∈b->False:=λy hy uO=>cx2
 obtain⟨S,L⟩:∃t,q.aS[z]?=some t:=⟨_,fv i⟩;unfold er.out;simp only[nat?,WF,dt,oU,bW,eN,I,J,aH6,dF];have T:((a++z::b).length:Int)-1=((a++b).length:Int):=ci8
 rcases ym a with rfl|⟨g,y,rfl⟩
 .rw[aF CF]
  cases b with
  |nil=>
   simp only[eN,aF CE];refine⟨_,ii,Q.CH h ?_ cn2 ?_ ?_ ?_ ?_,cn2⟩
   .grind [er.fJ,er.fe]
   .simp only[er.fJ,er.fe];rw[nH (by exact i)]
   .intro c y e;simp at e
   .intro y d e;cases e
   .intro y hy _ _;simp only[er.fJ,er.fe];rw[oA (dE hy)]
  |cons f b=>
   have w:¬BC (f::b)= -1:=(by rw[lF];omega);have p:=Q.thing n [z] b f cu4;have l:f≠z:=λe=>j co9
   simp only[eN,aE w];simp only[lF,WF,dt,oU,eN,p,aE l];refine⟨_,ii,Q.CH h ?_ cn2 ?_ ?_ ?_ ?_,cn2⟩
   .grind [er.fJ,er.fe,lF,xP]
   .simp only[er.fJ,er.fe];rw[nH (by simpa using i)]
   .intro c y e;simp at e
   .intro y d e;cases e;simp only[er.fJ,er.fe];rw[oA (dE l),AE p,aF rfl]
   intro y hy _ A;have m:y≠f:=λe=>A b cx5
   simp only[er.fJ,er.fe];rw[oA (dE hy),oA (dE m)]
 rw[yn]at*;have NW:¬CD (g++[y])= -1:=by rw[jx];omega
 have B:=Q.thing n g (z::b) y cu4;have C:y≠z:=λe=>K co9
 rw[aE NW];simp only[jx,WF,dt,oU,eN,B,aE C]
 cases b with
 |nil=>
  simp only[eN,aF CE];refine⟨_,ii,Q.CH h ?_ cn2 ?_ ?_ ?_ ?_,cn2⟩
  .grind [er.fJ,er.fe,jx,nY]
  .simp only[er.fJ,er.fe];rw[nH (by simpa using i)]
  .intro c u e;obtain⟨rfl,m⟩:=bS8;simp only[as0,at6]at m;subst m;simp only[er.fJ,er.fe];rw[oA (dE C),AE B,aF rfl]
  .intro y d e;cases e
  .intro u D E _;have F:u≠y:=λe=>E g cx5
   simp only[er.fJ,er.fe];rw[oA (dE D),oA (dE F)]
 |cons f b=>
  have w:¬BC (f::b)= -1:=by rw[lF];omega
  have l:f≠z:=λe=>j co9
  have o:f≠y:=λe=>v f co9 sX
  have p:=Q.thing n (g++[y]++[z]) b f cu4;have G:(q.aS.set y {pX:=(n:Int),behind:=BC (f::b),ahead:=CD g})[f]?=some {pX:=(n:Int),behind:=BC b,ahead:=CD (g++[y]++[z])}:=by rw[AE p,aE (dE o)]
  simp only[eN,aE w];simp only[lF,WF,dt,oU,eN,er.fJ]at G ⊢;simp only[G,eN,aE l];refine⟨_,ii,Q.CH h ?_ (by simp[er.fe]) ?_ ?_ ?_ ?_,by simp[er.fe]⟩
  .grind [er.fe,nY,xP]
  .simp only[er.fe];rw[nH (by simpa using i)]
  .intro c u e;obtain⟨rfl,m⟩:=bS8;simp only[as0,at6]at m;subst m;simp only[er.fe];rw[oA (dE C),oA o,AE B,aF ii,lF]
  .intro u d e
   cases e;simp only[er.fe];rw[oA (dE l),AE G,aF ii,jx]
  intro u D E A;have F:u≠y:=λe=>E g cx5
  have H:u≠f:=λe=>A b cx5
  simp only[er.fe];rw[oA (dE D),oA (dE H),oA (dE F)]
end
def iA(N:ap)(x:Nat):ap:=N.map (·.erase x)
theorem xQ.drop(Q:xQ q N){x:Nat}(n:x<q.aS)(o:q.aS.length<=1000):∃c p,q.drop x=some (c,p)/\xQ c (iA N x)/\c.aS=q.aS.length:=by
 obtain⟨t,g⟩:∃t,q.aS[x]?=some t:=⟨_,fv n⟩;unfold er.drop idx;simp only[WF,dt,oU,g];by_cases d:∃(k:Nat) (l:bv),N[k]?=some l/\x∈l
 .obtain⟨k,l,h,f⟩:=d;obtain⟨a,b,rfl⟩:=al8 f;have e:=Q.thing k a b x h;rw[g]at e
  cases e;have r:¬((k:Int)= -1):=oX
  simp only[aE r];obtain⟨c,s,u,v⟩:=Q.ai3 h o;rw[s];refine⟨c,true,ii,?_,v⟩;have A:x ∉ a:=λf=>by have:=Q.nodup k _ h;rw[tB]at this;exact this.2.2 x f x sX ii
  have j:iA N x=N.set k (a++b):=by
   apply ad9;intro i;unfold iA;rw[na];by_cases m:i=k
   .grind
   rw[oA (dE m)]
   cases w:N[i]? with
   |none=>rfl
   |some y=>
    have:x ∉ y:=λz=>m (Q.inj w z h sX)
    simp[List.erase_of_not_mem this]
  rw[j];exact u
 have m:∀(k:Nat) (l:bv),N[k]?=some l->x ∉ l:=λk l h f=>d ⟨k,l,h,f⟩
 have e:=Q.out x t g m;subst e;refine⟨q,false,ii,?_,ii⟩;have j:iA N x=N:=by apply ad9;grind [iA,List.erase_of_not_mem]
 rw[j];exact Q
end
def aP(x:bI):cu:=(idx x.ops x.at_).getD {}
theorem qd(h:t.gs[n]?=e):dH t n=aP e:=by unfold dH aP;rw[h];rfl
structure Vz(o:cu):Prop where
 k:1<=o.ai/\o.ai<=9
 ch:0<=o.ch/\o.ch<=8
 n:0<=o.n/\o.n<=4
 cl:o.cases.length<=6
 cs:∀c∈o.cases,0<=c.ch/\c.ch<=8
def aW(x:bI):Prop:=
 (aP x).ai≠9/\(x.ae=12\/x.ae=13\/x.ae=14)\/(aP x).ai=9/\(x.ae=29\/x.ae=30/\x.res.aJ=0\/x.ae=13\/x.ae=14)
def aT(x:bI):Prop:=x.ae=8\/x.ae=27
def bm(x:bI):Prop:=x.ae=7\/x.ae=26\/x.ae=23
def bC(x:bI):Nat:=
 if x.ae=24\/x.ae=30\/x.ae=31\/x.ae=33 then x.k.toNat
 else if 25<=x.ae/\x.ae<=29\/x.ae=32 then x.aq else 0
def cH(x:bI):Prop:=5<=x.ae/\x.ae<=12\/x.ae=16\/21<=x.ae/\x.ae<=23
def aL(x:bI)(c:Int):Prop:=if(aP x).ai=9 then c∈x.aq.take (bC x)else cH x/\c=(aP x).ch
def cV(o:cu)(C:Nat)(x:bI):Prop:=
 (x.res.aJ=1\/x.res.aJ=3)/\x.fire=x.res.case/\0<=x.res.case/\(∃c,o.cases[x.res.case.toNat]?=some c/\1<=c.ch/\c.ch<=C/\(x.res.aJ=3->c.cF))\/
 x.res.aJ=2/\o.dG/\x.res.case= -1\/x.res.aJ=6/\o.dG=false/\x.lQ=0
structure Clean(x:bI):Prop where
 aN:x.aN= -1
 bY:x.bY= -1
 OK:x.OK=[]
 bA:x.bA=[]
 aR:x.aR=false
 fire:x.fire= -1
 case:x.res.case= -1
 aJ:x.res.aJ=0
 lQ:x.lQ=0
 bJ:x.bJ=0
structure gU(C:Nat)(x:bI):Prop where
 ne:x.aH≠[]
 ord:∀i∈x.aH,0<=i/\∃c,(aP x).cases[i.toNat]?=some c/\1<=c.ch/\c.ch<=C/\c.ch∈x.aq
 nd:x.aH.Nodup
 len:x.aH.length<=6
 lk:∀l∈x.aq,1<=l/\l<=C
 BD:x.aq.Pairwise (· <·)
 Ei:x.aq≠[]
def bG(k p:Int):Bool:=
 if p=0\/p=18 then 1<=k&&k<=9
 else if p=1\/p=2 then k=4||k=5
 else if p=3 then k=5
 else if p=4\/p=16 then 2<=k&&k<=6
 else if p=5\/p=6\/p=7\/p=8\/p=9 then 2<=k&&k<=5
 else if p=10\/p=11\/p=12\/p=15 then k=2||k=3
 else if p=13\/p=14\/p=19 then k=2||k=3||k=9
 else if p=17 then 2<=k&&k<=6||k=9
 else if p=20 then k=1||k=7||k=8
 else if p=21\/p=22\/p=23 then k=6
 else if 24<=p/\p<=34 then k=9
 else false
def Ej(x:bI):Prop:=
 (x.ae=24\/x.ae=31->0<=x.k/\x.k<x.aq)/\(x.ae=30\/x.ae=33->1<=x.k/\x.k<=x.aq)/\
 (x.ae=25\/x.ae=26\/x.ae=27\/x.ae=28\/x.ae=29\/x.ae=32\/x.ae=34->0<=x.k/\x.k<x.aH)
structure nm(x:bI):Prop where
 none_:x.ae=24\/x.ae=25\/x.ae=26\/x.ae=27\/(x.ae=30/\(x.res.aJ=1\/x.res.aJ=2\/x.res.aJ=3))->x.bA=[]
 len:¬(x.ae=24\/x.ae=25\/x.ae=26\/x.ae=27\/(x.ae=30/\(x.res.aJ=1\/x.res.aJ=2\/x.res.aJ=3)))->x.bA=(aP x).cases.length
 own:∀(i:Nat) s,x.bA[i]?=some s->s≠ -1->0<=s/\(i:Int)∈x.aH
 all:x.ae=29\/(x.ae=30/\x.res.aJ=0)\/x.ae=13\/x.ae=14\/x.ae=31\/x.ae=32\/x.ae=33->∀i∈x.aH,∃s,x.bA[i.toNat]?=some s/\0<=s
 back:x.ae=34->∀(j:Nat) i,(j:Int)<x.k->x.aH[j]?=some i->x.bA[i.toNat]?=some (-1)
 more:x.ae=28->∀(j:Nat) i,x.k<=j->x.aH[j]?=some i->x.bA[i.toNat]?=some (-1)
 less:x.ae=28->∀(j:Nat) i,(j:Int)<x.k->x.aH[j]?=some i->∃s,x.bA[i.toNat]?=some s/\0<=s
structure Loc(C:Nat)(x:bI):Prop where
 JY:0<=x.at_/\x.at_<=x.ops/\x.ops.length<=16
 ops:∀o∈x.ops,Vz o
 Uy:x.ae≠0->x.at_<x.ops
 kp:x.ae≠0->bG (aP x).ai x.ae
 pl:0<=x.ae/\x.ae<=34
 begin:x.ae=0->Clean x
 cZ:(aP x).ai≠9->x.ae≠0->x.ae≠18->x.ae≠19->x.ae≠20->1<=(aP x).ch/\(aP x).ch<=C
 oW:(aP x).ai=9->x.ae≠0->x.ae≠17->x.ae≠18->x.ae≠19->gU C x/\Ej x/\nm x
 ready:x.ae=17->x.OK≠[]
 uP:x.ae≠16->x.ae≠17->x.ae≠22->x.ae≠23->¬(x.ae=30/\x.res.aJ=1)->x.OK=[]
 bY:(aP x).ai≠9->(x.ae=11\/x.ae=12\/x.ae=13\/x.ae=14\/x.ae=15)->0<=x.bY
 tI:(aP x).ai=9\/¬(x.ae=11\/x.ae=12\/x.ae=13\/x.ae=14\/x.ae=15)->x.bY= -1
 yC:(aP x).ai≠9->x.bA=[]
 rest:(aP x).ai=9->x.ae=17\/x.ae=18\/x.ae=19->∀s∈x.bA,s= -1
 br:aT x\/bm x->0<=x.br
 aN: -1<=x.aN/\(¬aW x->x.aN= -1)
 plain:(aP x).ai≠9->x.fire= -1/\x.res.case= -1/\x.aR=false
 cO:(aP x).ai=9->x.ae=24\/x.ae=25\/x.ae=26\/x.ae=28->x.aR=false/\x.lQ=0/\x.fire= -1/\x.res.case= -1/\x.res.aJ=0
 hand:x.ae=27->x.aR=false/\(∃j:Nat,x.k=j/\x.aH[j]?=x.fire)/\x.res.aJ=0
 BE:(aP x).ai=9->x.ae=29\/x.ae=13\/x.ae=14->x.res.aJ=0
 aR:(aP x).ai=9->(aW x->0<=x.aN->x.aR)/\(x.ae=31\/x.ae=32->x.aR)
 dG:x.ae=28->(aP x).dG=false
 res:(aP x).ai=9->(x.ae=30/\x.res.aJ≠0)\/x.ae=31\/x.ae=32\/x.ae=33\/x.ae=34\/x.ae=17\/x.ae=18->cV (aP x) C x
 num: -1<=x.br
def eP(x:bI)(s:Nat)(a:fE):Prop:=
 (aP x).ai≠9/\x.bY=s/\a.case= -1/\a.ch=(aP x).ch/\a.cF=decide ((aP x).ai=2)\/
 (aP x).ai=9/\0<=a.case/\x.bA[a.case.toNat]?=(s:Int)/\∃c,(aP x).cases[a.case.toNat]?=some c/\a.ch=c.ch/\a.cF=c.cF
def eV(x:bI)(a:fE):Prop:=
 (aP x).ai≠9/\(x.ae=12\/x.ae=13\/x.ae=14)/\x.aN= -1\/
 (aP x).ai=9/\(x.ae=29/\(∃j:Nat,(j:Int)<x.k/\x.aH[j]?=a.case)\/x.ae=30/\x.res.aJ=0\/x.ae=13\/x.ae=14\/x.ae=31/\(∃j:Nat,x.aH[j]?=a.case)\/x.ae=32/\∃j:Nat,x.k<=j/\x.aH[j]?=a.case)
def Lh(a:fE):Int:=if a.cF then 2*a.ch-1 else 2*a.ch-2
structure rQ(p:fS)(N n:Nat):Prop where
 ok:p.Ok
 size:p.size=N
 bV:p.bV=N
 aC:p.aC=n
 most:∀c∈p.aC,(c:Int)<=p.most
 nd:(p.aK++p.aC.flatten).Nodup
 kept:∀x∈p.aK++p.aC.flatten,0<=x/\p.bV[x.toNat]?=true/\x<p.cO
 new:∀y:Nat,p.cO<=y->y<N->p.bV[y]?=false
def lG(b:ce)(a:List bI):Prop:=∀(c:Nat) h,b[c]?=some h-> -1<=h/\h<a/\∀(g:Nat) x,a[g]?=some x->(aL x ((c:Int)+1)↔h=g)
def tc(a:List bI)(b:List (Int×Bool)):Prop:=∀(g:Nat) x s t,a[g]?=some x->b[g]?=some (s,t)->0<=s/\s<=2/\(t->aW x/\x.ae≠14/\0<=x.aN/\s=0)/\(s=1->x.ae=14\/x.ae=19)/\(x.ae=19->s=1)/\(x.ae=14->s=0->0<=x.aN)/\(s=2->x.ae=0/\x.at_=x.ops)
def pD(a:List bI)(b:List (Int×Bool)):Prop:=∀(g:Nat) x z,a[g]?=some x->z∈x.OK->∃(j:Nat) (y:bI) (s:Int),z=j/\a[j]?=y/\aW y/\0<=y.aN/\b[j]?=(s,false)/\(y.ae=14->s=1)
structure Inv(w:Wd)(ls:ap):Prop where
 n8:w.gs.length<=8
 ax:w.ax=w.gs.length
 c8:w.au.length<=8
 aO:w.aO=w.au.length
 aq:w.aq=w.au.length
 au:∀r∈w.au,r.Ok
 JZ:w.ah.length<=64
 aS:w.ef.aS=w.ah.length
 bM:ls.length=16
 Eg:rQ w.Eg w.ah w.gs
 q:xQ w.ef ls
 loc:∀(g:Nat) x,w.gs[g]?=some x->Loc w.au x
 lock:lG w.aq w.gs
 cK:∀(s:Nat) sd,w.ah[s]?=some sd->sd.cK->w.Eg.cK s
 bY:∀(g:Nat) x (s:Nat),w.gs[g]?=some x->x.bY=((s:Nat):Int)->∃sd,w.ah[s]?=some sd/\sd.cK/\sd.g=g/\eP x s sd
 bA:∀(g:Nat) x (i s:Nat),w.gs[g]?=some x->x.bA[i]?=((s:Nat):Int)->∃sd,w.ah[s]?=some sd/\sd.cK/\sd.g=g/\sd.case=(i:Nat)/\eP x s sd
 EJ:∀(k:Nat) l s,ls[k]?=some l->s∈l->∃(sd:fE) (g:Nat) (x:bI),w.ah[s]?=sd/\sd.cK/\sd.g=((g:Nat):Int)/\w.gs[g]?=x/\eP x s sd/\eV x sd/\(k:Int)=Lh sd
 look:∀(g:Nat) x,w.gs[g]?=some x->bm x->∃(s k:Nat) (l:bv) (sd:fE),x.br=s/\ls[k]?=l/\s∈l/\w.ah[s]?=sd/\0<=sd.case/\aL x sd.ch
 claim:∀(g:Nat) x,w.gs[g]?=some x->aT x->∃(s z:Nat) (sd:fE) (y:bI),x.br=s/\w.ah[s]?=sd/\sd.cK/\sd.g=z/\z≠g/\w.gs[z]?=y/\eP y s sd/\aW y/\y.aN= -1/\y.fire=sd.case/\
  ((aP y).ai=9->y.aR)/\((aP y).ai≠9->∀(k:Nat) l,ls[k]?=some l->s ∉ l)/\aL x sd.ch
 pE:∀(g:Nat) x (g':Nat) x' (s s':Nat) sd sd',w.gs[g]?=some x->aT x->w.gs[g']?=some x'->aT x'->x.br=s->x'.br=s'->w.ah[s]?=some sd->w.ah[s']?=some sd'->sd.g=sd'.g->g=g'
 served:∀(g:Nat) x (s:Nat),w.gs[g]?=some x->x.aN=s->∃sd,w.ah[s]?=some sd/\sd.cK/\sd.g=g/\eP x s sd/\x.fire=sd.case
 st:tc w.gs w.ax
 jn:pD w.gs w.ax
 pg:∀(g:Nat) x,w.gs[g]?=some x->x.OK.Nodup
 rf:∀(g:Nat) x (g':Nat) x' z,w.gs[g]?=some x->w.gs[g']?=some x'->z∈x.OK->z∈x'.OK->g=g'
theorem cX{a:List bI}{y:bI}(b:a[n]?=e)(h:(a.set n O)[z]?=y):(z=n/\y=O)\/(z≠n/\a[z]?=y):=by
 grind
theorem di{a:List bI}{x:bI}(b:bI)(c:a[n]?=x):(a.set n b)[n]?=b:=nH (um c)
theorem gd{a:List bI}(h:z≠n):(a.set n e)[z]?=a[z]?:=oA (dE h)
section
variable{aq:ce}{gs:List bI}(h:lG aq gs)
include h
theorem lG.same(b:gs[n]?=e)(d:∀c,aL O c↔aL e c):lG aq (gs.set n O):=by
 intro c o a;obtain⟨f,g,i⟩:=h c o a;grind
theorem lG.acquire{g c:Nat}{a:bI}(hx:gs[g]?=O)(hc:aq[c]?=some (-1))(he:∀d,aL a d↔aL O d\/d=(c:Int)+1):lG (aq.set c g) (gs.set g a):=by
 exact cb1
theorem lG.release{g c:Nat}{a:bI}(hx:gs[g]?=O)(hc:aq[c]?=(g:Int))(he:∀d,aL a d↔aL O d/\d≠(c:Int)+1):lG (aq.set c (-1)) (gs.set g a):=by
 exact cb1
theorem lG.one{x:bI}(f:gs[n]?=x)(g:gs[z]?=e)(i:aL x Y)(j:aL e Y)(l:1<=Y/\Y<=aq):n=z:=by
 obtain⟨o,k⟩:∃o,aq[(Y-1).toNat]?=some o:=⟨_,fv oX⟩;have c:(((Y-1).toNat:Int)+1)=Y:=oX
 obtain⟨_,_,d⟩:=h _ _ k;have a:=(d n x f).1 (by rw[c];exact i);have b:=(d z e g).1 (by rw[c];exact j);omega
end
section
variable{w w':Wd}
def Li(w:Wd)(g z:Nat):Prop:=∀(j:Nat) u (s:Nat) a,w.gs[j]?=some u->j≠g->aT u->u.br=s->w.ah[s]?=some a->a.g≠z
theorem Inv.aW6(I:Inv w N)(p:w.gs[n]?=e)(hL:Loc w.au O)(own:∀(k:Nat) l s m,N[k]?=some l->s∈l->w.ah[s]?=some m->m.g=n->eP e s m->eV e m->eP O s m/\eV O m)(bY:∀s:Nat,O.bY=s->∃m,w.ah[s]?=some m/\m.cK/\m.g=n/\eP O s m)(bA:∀i s:Nat,O.bA[i]?=(s:Int)->∃m,w.ah[s]?=some m/\m.cK/\m.g=n/\m.case=i/\eP O s m)(cR:∀(j:Nat) u (s:Nat) m,w.gs[j]?=some u->j≠n->aT u->u.br=s->w.ah[s]?=some m->m.g=n->eP e s m->aW e->e.aN= -1->e.fire=m.case->((aP e).ai=9->e.aR)->eP O s m/\aW O/\O.aN= -1/\O.fire=m.case/\((aP O).ai=9->O.aR)/\((aP O).ai≠9->(aP e).ai≠9))(W:aT O->∃(s z:Nat) (m:fE) (y:bI),O.br=s/\w.ah[s]?=m/\m.cK/\m.g=z/\z≠n/\w.gs[z]?=y/\eP y s m/\aW y/\y.aN= -1/\y.fire=m.case/\((aP y).ai=9->y.aR)/\((aP y).ai≠9->∀(k:Nat) l,N[k]?=some l->s ∉ l)/\aL O m.ch/\Li w n z)(YI:bm O->∃(s k:Nat) (l:bv) (m:fE),O.br=s/\N[k]?=l/\s∈l/\w.ah[s]?=m/\0<=m.case/\aL O m.ch)(X:∀s:Nat,O.aN=s->∃m,w.ah[s]?=some m/\m.cK/\m.g=n/\eP O s m/\O.fire=m.case)(Y:O.OK.Nodup)(L:∀(j:Nat) u z,w.gs[j]?=some u->j≠n->z∈u.OK->z ∉ O.OK)(x:w'.gs=w.gs.set n O)(e2:w'.ax=w.ax.length)(S:w'.au=w.au.length)(e4:∀r∈w'.au,r.Ok)(e5:w'.aO=w.aO.length)(e6:w'.aq=w.aq.length)(e7:lG w'.aq w'.gs)(C:w'.ah=w.ah)(e9:w'.ef=w.ef)(Lj:w'.Eg=w.Eg)(jf:tc w'.gs w'.ax)(J0:pD w'.gs w'.ax):Inv w' N:=by
 have hg:n<w.gs.length:=um p;have Z:w'.gs.length=w.gs.length:=by rw[x];simp
 refine⟨by rw[Z];exact I.n8,by rw[e2,Z];exact I.ax,by rw[S];exact I.c8,by rw[e5,S];exact I.aO,by rw[e6,S];exact I.aq,e4,by rw[C];exact I.JZ,by rw[e9,C];exact I.aS,I.bM,by rw[Lj,C,Z];exact I.Eg,by rw[e9];exact I.q,?_,e7,by rw[C,Lj];exact I.cK,?_,?_,?_,?_,?_,?_,?_,jf,J0,?_,?_⟩
 .intro j y o;rw[x]at o;rw[S];rcases cX p o with⟨rfl,rfl⟩|⟨D,o⟩
  .exact hL
  exact I.loc j y o
 .intro j y s o E;rw[x]at o;rw[C];rcases cX p o with⟨rfl,rfl⟩|⟨D,o⟩
  .exact bY s E
  exact I.bY j y s o E
 .intro j y i s o E;rw[x]at o;rw[C];rcases cX p o with⟨rfl,rfl⟩|⟨D,o⟩
  .exact bA i s E
  exact I.bA j y i s o E
 .intro k l s g E;obtain⟨m,j,y,t,A,B,v,F,G,H⟩:=I.EJ k l s g E;rw[x,C];by_cases J:j=n
  .subst J;rw[p]at v;cases v;obtain⟨a,b⟩:=own k l s m g E t B F G;exact⟨m,j,O,t,A,B,di _ p,a,b,H⟩
  exact⟨m,j,y,t,A,B,by rw[gd J];exact v,F,G,H⟩
 .intro j y o g;rw[x]at o;rw[C];rcases cX p o with⟨rfl,rfl⟩|⟨D,o⟩
  .exact YI g
  exact I.look j y o g
 .intro j y o J;rw[x]at o;rw[x,C];rcases cX p o with⟨rfl,rfl⟩|⟨D,o⟩
  .obtain⟨s,z,m,u,t,A,B,v,F,G,H,M,P,Q,R,T,U,_⟩:=W J;exact⟨s,z,m,u,t,A,B,v,F,by rw[gd F];exact G,H,M,P,Q,R,T,U⟩
  have rN:=o;obtain⟨s,z,m,u,t,A,B,v,F,G,H,M,P,Q,R,T,U⟩:=I.claim j y o J;by_cases K:z=n
  .subst K;rw[p]at G;cases G;obtain⟨a,b,c,d,g,f⟩:=cR j y s m rN D J t A v H M P Q R;exact⟨s,z,m,O,t,A,B,v,F,di _ p,a,b,c,d,g,λh=>T (f h),U⟩
  exact⟨s,z,m,u,t,A,B,v,F,by rw[gd K];exact G,H,M,P,Q,R,T,U⟩
 .intro j y M P s s' m Q o J g Ek hh Xv T U G4;rw[x]at o g;rw[C]at T U;rcases cX p o with⟨t,A⟩|⟨D,rN⟩<;>rcases cX p g with⟨B,v⟩|⟨Lk,YJ⟩
  .rw[t,B]
  .subst A;obtain⟨s0,z,Nf,u,a1,R,a3,a4,a5,a6,a7,a8,a9,a0,ab,ad,ae,YK⟩:=W J;obtain rfl:s0=s:=by omega
   rw[T]at R;cases R;exact aX (G4.symm.trans a4) (YK M P s' Q YJ Lk Ek Xv U)
  .subst v;obtain⟨s0,z,Nf,u,a1,R,a3,a4,a5,a6,a7,a8,a9,a0,ab,ad,ae,YK⟩:=W Ek;obtain rfl:s0=s':=by omega
   rw[U]at R;cases R;exact aX (G4.trans a4) (YK j y s m rN D J hh T)
  exact I.pE j y M P s s' m Q rN J YJ Ek hh Xv T U G4
 .intro j y s o Q;rw[x]at o;rw[C];rcases cX p o with⟨rfl,rfl⟩|⟨D,o⟩
  .exact X s Q
  exact I.served j y s o Q
 .intro j y o;rw[x]at o;rcases cX p o with⟨rfl,rfl⟩|⟨D,o⟩
  .exact Y
  exact I.pg j y o
 intro j y M P z o g K Q;rw[x]at o g;rcases cX p o with⟨t,A⟩|⟨D,o⟩<;>rcases cX p g with⟨B,v⟩|⟨Lk,g⟩
 .rw[t,B]
 .rw[A]at K;exact aX K (L M P z g Lk Q)
 .rw[v]at Q;exact aX Q (L j y z o D K)
 exact I.rf j y M P z o g K Q
structure lH(x x':bI):Prop where
 aP:aP x'=aP x
 wt:aW x'↔aW x
 cl:¬aT x'
 lo:¬bm x'
 bY:x'.bY=x.bY
 bA:x'.bA=x.bA
 OK:x'.OK=x.OK
 aN:x'.aN=x.aN
 seen:aW x->x'.fire=x.fire/\x'.aR=x.aR
 q:∀sd,eV x sd->eV x' sd
theorem lH.owns(h:lH e O){s:Nat}:eP O s T↔eP e s T:=by unfold eP;rw[h.aP,h.bY,h.bA]
section
variable{gs:List bI}{b:List (Int×Bool)}
theorem tc.same(h:tc gs b)(d:gs[n]?=e)(g:∃t,b[n]?=some (0,t))(i:aW e->aW O)(k:O.aN=e.aN)(l:O.ae=14->e.ae=14)(m:O.ae≠19):tc (gs.set n O) b:=by
 obtain⟨t0,f⟩:=g;intro j y s t a c;rcases cX d a with⟨rfl,rfl⟩|⟨o,a⟩
 .rw[f]at c;cases c;obtain⟨p,q,r,u,v,x,z⟩:=h _ e 0 t0 d f;grind
 exact h j y s t a c
theorem pD.same(h:pD gs b)(k:gs[n]?=e)(l:aW e->aW O)(m:O.aN=e.aN)(o:O.OK=e.OK)(p:O.ae=14->e.ae=14):pD (gs.set n O) b:=by
 intro j y z q r;have key:∀(i:Nat) (u:bI) (s:Int),gs[i]?=u->aW u->0<=u.aN->b[i]?=(s,false)->(u.ae=14->s=1)->∃a,(gs.set n O)[i]?=some a/\aW a/\0<=a.aN/\b[i]?=(s,false)/\(a.ae=14->s=1):=cp2
 have f:∃(d:Nat) (c:bI),gs[d]?=c/\z∈c.OK:=cp2
 obtain⟨d,c,J2,g⟩:=f;obtain⟨i,u,s,t,v,x,A,B,C⟩:=h d c z J2 g;grind
end
section
variable(I:Inv w N){x':bI}(hx:w.gs[n]?=e)
include I hx
theorem Inv.iQ(o:aP x'=aP e)(l:x'.bY=e.bY)(m:x'.bA=e.bA):(∀s:Nat,x'.bY=s->∃j,w.ah[s]?=some j/\j.cK/\j.g=n/\eP x' s j)/\(∀i s:Nat,x'.bA[i]?=(s:Int)->∃j,w.ah[s]?=some j/\j.cK/\j.g=n/\j.case=i/\eP x' s j)/\∀s j,eP x' s j↔eP e s j:=by
 have k:∀s j,eP x' s j↔eP e s j:=λs j=>by unfold eP;rw[o,l,m]
 refine⟨λs h=>?_,λi s h=>?_,k⟩
 .obtain⟨j,a,b,c,d⟩:=I.bY n e s hx (by rw[<-l];exact h);exact⟨j,a,b,c,(k _ _).2 d⟩
 obtain⟨j,a,b,c,f,d⟩:=I.bA n e i s hx (by rw[<-m];exact h);exact⟨j,a,b,c,f,(k _ _).2 d⟩
theorem Inv.qB(j:∀s i,eP x' s i↔eP e s i)(k:x'.aN=e.aN)(l:aW e->x'.fire=e.fire):∀s:Nat,x'.aN=s->∃i,w.ah[s]?=some i/\i.cK/\i.g=n/\eP x' s i/\x'.fire=i.case:=by
 intro s h;have m:e.aN=s:=by rw[<-k];exact h
 have o:aW e:=ww λp=>by have:=(I.loc _ e hx).aN.2 p;omega
 obtain⟨i,a,b,c,d,f⟩:=I.served n e s hx m;exact⟨i,a,b,c,(j _ _).2 d,by rw[l o];exact f⟩
theorem Inv.jU(h:x'.OK.Sublist e.OK):x'.OK.Nodup/\∀(j:Nat) u z,w.gs[j]?=some u->j≠n->z∈u.OK->z ∉ x'.OK:=
 ⟨h.nodup (I.pg n e hx),λj u z a b c d=>b (I.rf j u n e z a hx c (h.subset d))⟩
theorem Inv.frame(p:∃t,w.ax[n]?=some (0,t))(M:lH e x')(o:x'.ae=14->e.ae=14)(v:x'.ae≠19)(y:Loc w.au x')(i:w'.gs=w.gs.set n x')(m:w'.ax=w.ax)(z:w'.au=w.au.length)(A:∀r∈w'.au,r.Ok)(B:w'.aO=w.aO.length)(C:w'.aq=w.aq.length)(D:lG w'.aq w'.gs)(E:w'.ah=w.ah)(F:w'.ef=w.ef)(G:w'.Eg=w.Eg):Inv w' N:=
 have K:=I.iQ hx M.aP M.bY M.bA
 have W:=I.jU (x':=x') hx (by rw[M.OK];exact ae0 _)
 I.aW6 hx y (λk l s H _ _ _ _ a b=>⟨(K.2.2 _ _).2 a,M.q _ b⟩) K.1 K.2.1 (λj u s H _ _ _ _ _ _ a b c d f=>⟨(K.2.2 _ _).2 a,M.wt.2 b,M.aN.trans c,by rw[(M.seen b).1];exact d,by rw[M.aP,(M.seen b).2];exact f,by rw[M.aP];exact id⟩)
  (λh=>aX h M.cl) (λh=>aX h M.lo) (I.qB hx K.2.2 M.aN λh=>(M.seen h).1) W.1 W.2 i (by rw[m]) z A B C D E F G (by rw[i,m];exact I.st.same hx p M.wt.2 M.aN o v) (by rw[i,m];exact I.jn.same hx M.wt.2 M.aN M.OK o)
end
end
theorem wg{s:Nat}{l:bv}(h:(iA N s)[n]?=l):∃a,N[n]?=some a/\l=a.erase s:=by
 unfold iA at h;grind
theorem OV{l:bv}(s:Nat)(h:N[n]?=l):(iA N s)[n]?=l.erase s:=by
 grind [iA]
section
variable{w':Wd}
theorem Inv.B8(I:Inv t N){s:Nat}(Q:s<t.ah)(A:∀(g:Nat) x,t.gs[g]?=some x->bm x->x.br≠s):∃n,fZ t s=some {t with ef:=n}/\Inv {t with ef:=n} (iA N s)/\(∀(k:Nat) l,(iA N s)[k]?=some l->s ∉ l):=by
 have R:=I.aS;have B:=I.JZ;obtain⟨n,S,o,p,r⟩:=bS9;have C:∀(k:Nat) l,(iA N s)[k]?=some l->s ∉ l:=λk l i=>by obtain⟨j,a,rfl⟩:=wg i;exact λm=>((I.q.nodup k j a).mem_erase_iff.1 m).1 rfl
 refine⟨n,by unfold fZ;rw[o];rfl,⟨I.n8,I.ax,I.c8,I.aO,I.aq,I.au,I.JZ,r.trans I.aS,by unfold iA;rw[ko];exact I.bM,I.Eg,p,I.loc,I.lock,I.cK,I.bY,I.bA,?_,?_,?_,I.pE,I.served,I.st,I.jn,I.pg,I.rf⟩,C⟩
 .intro k l u i m;obtain⟨j,a,rfl⟩:=wg i;exact I.EJ k j u a (bH3 m)
 .intro g x hx i;obtain⟨u,k,l,v,a,b,c,d,e,f⟩:=I.look g x hx i;refine⟨u,k,l.erase s,v,a,OV s b,?_,d,e,f⟩;rw[(I.q.nodup k l b).mem_erase_iff];exact⟨λe=>A g x hx i (by rw[a,e]),c⟩
 intro g x hx hc;obtain⟨u,z,v,y,o,p,r,D,E,F,G,H,J,K,L,M,O⟩:=bT0;refine⟨u,z,v,y,o,p,r,D,E,F,G,H,J,K,L,λh k l i m=>?_,O⟩;obtain⟨j,a,rfl⟩:=wg i;exact M h k j a (bH3 m)
def uW(a b:fE):Prop:=a.cK=b.cK/\a.g=b.g/\a.ch=b.ch/\a.case=b.case/\a.cF=b.cF
theorem uW.owns{b:fE}(h:uW T b){s:Nat}:eP e s T↔eP e s b:=by obtain⟨_,_,a,c,d⟩:=h;unfold eP;rw[a,c,d]
theorem uW.eV{a b:fE}(h:uW a b){x:bI}:eV x a↔eV x b:=by obtain⟨_,_,d,c,e⟩:=h;unfold V.eV;rw[c]
theorem Di{l:List fE}{s:Nat}{u:fE}(a:l[s]?=T)(h:(l.set s sd)[n]?=u):(n=s/\u=sd)\/(n≠s/\l[n]?=u):=by
 grind
theorem qN{l:List fE}{s:Nat}(a:l[s]?=T):(l.set s sd)[s]?=sd:=nH (um a)
theorem OW{l:List fE}{s:Nat}(a:fE)(h:n≠s):(l.set s a)[n]?=l[n]?:=oA (dE h)
theorem Inv.ZG(I:Inv t N){s:Nat}{sd':fE}(Z:t.ah[s]?=sd)(h:uW sd' sd):Inv (t.cJ s sd') N:=by
 have n:∀(j:Nat) u,t.ah[j]?=some u->∃m,(t.ah.set s sd')[j]?=some m/\uW m u:=by
  intro j u B;by_cases e:j=s
  .grind
  exact⟨u,by rw[OW _ e];exact B,ii,ii,ii,ii,ii⟩
 have r:∀(j:Nat) m,(t.ah.set s sd')[j]?=some m->∃u,t.ah[j]?=some u/\uW m u:=cp2
 have C:(t.ah.set s sd').length=t.ah.length:=sX
 refine⟨I.n8,I.ax,I.c8,I.aO,I.aq,I.au,by simp only[Wd.cJ];rw[C];exact I.JZ,by simp only[Wd.cJ];rw[C];exact I.aS,I.bM,by simp only[Wd.cJ];rw[C];exact I.Eg,I.q,I.loc,I.lock,?_,?_,?_,?_,?_,?_,?_,?_,I.st,I.jn,I.pg,I.rf⟩
 .intro j m B v;obtain⟨u,a,b⟩:=r j m B;exact I.cK j u a (by rw[<-b.1];exact v)
 .intro g x j hx A;obtain⟨u,a,b,c,d⟩:=I.bY g x j hx A;obtain⟨m,e,f⟩:=n j u a;exact⟨m,e,f.1.trans b,f.2.1.trans c,f.owns.2 d⟩
 .intro g x i j hx A;obtain⟨u,a,b,c,k,d⟩:=I.bA g x i j hx A;obtain⟨m,e,f⟩:=n j u a;exact⟨m,e,f.1.trans b,f.2.1.trans c,f.2.2.2.1.trans k,f.owns.2 d⟩
 .intro k l j v A;obtain⟨u,g,x,a,b,c,d,e,i,o⟩:=I.EJ k l j v A;obtain⟨m,p,f⟩:=n j u a;exact⟨m,g,x,p,f.1.trans b,f.2.1.trans c,d,f.owns.2 e,f.eV.2 i,by unfold Lh at o ⊢;rw[f.2.2.2.2,f.2.2.1];exact o⟩
 .intro g x hx v;obtain⟨j,k,l,u,a,b,c,d,e,i⟩:=I.look g x hx v;obtain⟨m,p,f⟩:=n j u d;exact⟨j,k,l,m,a,b,c,p,by rw[f.2.2.2.1];exact e,by rw[f.2.2.1];exact i⟩
 .intro g x hx hc;obtain⟨j,z,u,y,D,E,F,G,H,J,K,L,M,O,Q,R,S⟩:=bT0;obtain⟨m,p,f⟩:=n j u E;exact⟨j,z,m,y,D,p,f.1.trans F,f.2.1.trans G,H,J,f.owns.2 K,L,M,O.trans f.2.2.2.1.symm,Q,R,by rw[f.2.2.1];exact S⟩
 .intro g x K L j J M O hx hc Q R D E F G H;obtain⟨S,T,U⟩:=r j M F;obtain⟨W,X,Y⟩:=r J O G;exact I.pE g x K L j J S W hx hc Q R D E T X (by rw[<-U.2.1,<-Y.2.1];exact H)
 intro g x j hx J;obtain⟨u,a,b,c,d,e⟩:=I.served g x j hx J;obtain⟨m,p,f⟩:=n j u a;exact⟨m,p,f.1.trans b,f.2.1.trans c,f.owns.2 d,e.trans f.2.2.2.1.symm⟩
theorem Inv.Wk(I:Inv t N){s:Nat}{sd':fE}{p':fS}(O:t.ah[s]?=sd)(W:sd.cK->∀(g:Nat) x,t.gs[g]?=some x->sd.g=g->¬eP x s sd)(Q:rQ p' t.ah t.gs)(R:∀y:Nat,y≠s->p'.cK y=t.Eg.cK y)(S:sd'.cK->p'.cK s):Inv {t.cJ s sd' with Eg:=p'} N:=by
 have X:∀(j g:Nat) (x:bI) u,t.gs[g]?=x->t.ah[j]?=some u->u.cK=true->u.g=g->eP x j u->j≠s:=cp2
 have f:∀(j g:Nat) (x:bI) u,t.gs[g]?=x->t.ah[j]?=some u->u.cK=true->u.g=g->eP x j u->(t.ah.set s sd')[j]?=some u:=cp2
 have D:(t.ah.set s sd').length=t.ah.length:=sX
 refine⟨I.n8,I.ax,I.c8,I.aO,I.aq,I.au,by simp only[Wd.cJ];rw[D];exact I.JZ,by simp only[Wd.cJ];rw[D];exact I.aS,I.bM,by simp only[Wd.cJ];rw[D];exact Q,I.q,I.loc,I.lock,?_,?_,?_,?_,?_,?_,?_,?_,I.st,I.jn,I.pg,I.rf⟩
 .intro j m n p;rcases Di O n with⟨rfl,rfl⟩|⟨e,n⟩
  .exact S p
  simp only;rw[R j e];exact I.cK j m n p
 .intro g x j hx m;obtain⟨u,a,b,c,d⟩:=I.bY g x j hx m;exact⟨u,f j g x u hx a b c d,b,c,d⟩
 .intro g x i j hx m;obtain⟨u,a,b,c,k,d⟩:=I.bA g x i j hx m;exact⟨u,f j g x u hx a b c d,b,c,k,d⟩
 .intro k l j p m;obtain⟨u,g,x,a,b,c,d,e,i,o⟩:=I.EJ k l j p m;exact⟨u,g,x,f j g x u d a b c e,b,c,d,e,i,o⟩
 .intro g x hx A;obtain⟨j,k,l,u,a,b,c,d,e,i⟩:=I.look g x hx A;obtain⟨E,B,C,r,F,c2,d2,G,H,J⟩:=I.EJ k l j b c;rw[d]at r;cases r;exact⟨j,k,l,u,a,b,c,f j B C u d2 d F c2 G,e,i⟩
 .intro g x hx hc;obtain⟨j,z,u,y,r,A,B,C,F,G,H,J,K,L,M,T,U⟩:=bT0;exact⟨j,z,u,y,r,f j z y u G A B C H,B,C,F,G,H,J,K,L,M,T,U⟩
 .intro g x G H j J K E hx hc L M r A B C F
  have key:∀(g:Nat) (x:bI) (j:Nat) u,t.gs[g]?=x->aT x->x.br=j->(t.ah.set s sd')[j]?=some u->t.ah[j]?=some u:=by
   intro g x j u hx hc U n;obtain⟨T,z,v,y,Y,Z,k3,k4,k5,k6,k7,_⟩:=bT0;obtain rfl:T=j:=oX
   grind
  exact I.pE g x G H j J K E hx hc L M r A (key g x j K hx hc r B) (key G H J E L M A C) F
 intro g x j hx G;obtain⟨u,a,b,c,d,e⟩:=I.served g x j hx G;exact⟨u,f j g x u hx a b c d,b,c,d,e⟩
theorem Inv.UX(I:Inv t N){s k g:Nat}(B:t.ah[s]?=sd)(J:sd.cK)(K:sd.g=g)(E:t.gs[g]?=e)(L:eP e s sd)(M:eV e sd)(O:(k:Int)=Lh sd)(ZH:k<16)(Q:∀(k:Nat) l,N[k]?=some l->s ∉ l)(R:(aP e).ai≠9->∀(j:Nat) u,t.gs[j]?=some u->aT u->u.br≠s):∃x l,N[k]?=some l/\lh t k s=some {t with ef:=x}/\Inv {t with ef:=x} (N.set k (l++[s])):=by
 have N5:=I.aS;have S:=I.JZ;have mj:s<t.ah.length:=um B;obtain⟨l,o⟩:∃l,N[k]?=some l:=⟨_,fv (by have:=I.bM;omega)⟩;obtain⟨x,T,U,W⟩:=I.q.push o (x:=s) oX Q oX;refine⟨x,l,o,by unfold lh;rw[T];rfl,⟨I.n8,I.ax,I.c8,I.aO,I.aq,I.au,I.JZ,W.trans I.aS,by rw[kI];exact I.bM,I.Eg,U,I.loc,I.lock,I.cK,I.bY,I.bA,?_,?_,?_,I.pE,I.served,I.st,I.jn,I.pg,I.rf⟩⟩
 .intro m r u p v;rcases rP o p with⟨rfl,rfl⟩|⟨X,p⟩
  .rcases ae4.1 v with h|h
   .exact I.EJ m l u o h
   simp at h;subst h;exact⟨sd,g,e,B,J,K,E,L,M,O⟩
  exact I.EJ m r u p v
 .intro j y A D;obtain⟨u,m,r,n,a,b,c,d,i,f⟩:=I.look j y A D;by_cases C:m=k
  .subst C;rw[o]at b;cases b;exact⟨u,m,_,n,a,yB o,by simp[c],d,i,f⟩
  exact⟨u,m,r,n,a,by rw[oA (dE C)];exact b,c,d,i,f⟩
 intro j y A F;obtain⟨u,z,n,Y,G,C,Z,a4,h5,D,h7,h8,h9,ph,rA,H,uu⟩:=I.claim j y A F;refine⟨u,z,n,Y,G,C,Z,a4,h5,D,h7,h8,h9,ph,rA,λh m r p v=>?_,uu⟩;rcases rP o p with⟨rfl,rfl⟩|⟨X,p⟩
 .rcases ae4.1 v with i|i
  .exact H h m l o i
  simp at i;subst i;rw[B]at C;cases C;obtain rfl:z=g:=oX
  rw[E]at D;cases D;exact R h j y A F G
 exact H h m r p v
end
section
variable{w':Wd}{x:bI}{C:Nat}
theorem gU.mk'(h:gU C x)(c:aP O=aP x)(a:O.aH=x.aH)(b:O.aq=x.aq):gU C O:=by
 obtain⟨d,e,f,i,j,k,l⟩:=h;exact⟨by rw[a];exact d,by rw[c,a,b];exact e,by rw[a];exact f,by rw[a];exact i,by rw[b];exact j,by rw[b];exact k,by rw[b];exact l⟩
theorem qj{l:ce}(h:z<l):Y∈l.take (z+1)↔Y∈l.take z\/l[z]?=Y:=by
 rw[al6,fv h];simp only[ay4,ae4,ae6,oZ];exact or_congr ak1 ⟨λh=>h.symm,λh=>h.symm⟩
theorem OD{l:ce}(a:l.Pairwise (· <·))(h:l[z]?=Y):Y ∉ l.take z:=by
 intro b;obtain⟨j,c,e⟩:=al3 b;rw[tC]at c;obtain⟨d,f⟩:=uC h;rw[List.getElem_take]at e;have:=ak7.1 a j z oX d oX;omega
section
variable(L:Loc C x)(hk:(aP x).ai=9)
include L hk
theorem M.V2(hp:x.ae=13):lH x {x with ae:=14}/\Loc C {x with ae:=14}/\∀c,aL {x with ae:=14} c↔aL x c:=by
 have e:aP {x with ae:=14}=aP x:=rfl;obtain⟨s1,s2,s3⟩:=bT1;obtain⟨cP,ja,fX⟩:=bK8;have a:0<x.aq.length:=pd cP;have f:0<x.aH.length:=pd ja
 have nL:gU C {x with ae:=14}/\Ej {x with ae:=14}/\nm {x with ae:=14}:=by
  exact bZ3
 have dJ:∀c,aL {x with ae:=14} c↔aL x c:=by
  intro c;unfold aL;rw[e,aF hk,aF hk];have b:bC x=0:=cl8
  have d:bC {x with ae:=14}=0:=cl8
  rw[b,d]
 have i:cV (aP x) C {x with ae:=14}↔cV (aP x) C x:=ak1;exact ci3
theorem M.c14(hp:x.ae=14)(i:0<=x.aN)(r:nP)(j:r.aJ≠0)(b:cV (aP x) C {x with res:=r}):Loc C {x with res:=r,aN:= -1,k:=0,ae:=31}/\∀c,aL {x with res:=r,aN:= -1,k:=0,ae:=31} c↔aL x c:=by
 have e:aP {x with res:=r,aN:= -1,k:=0,ae:=31}=aP x:=rfl;obtain⟨s1,s2,s3⟩:=bT1;obtain⟨cP,ja,fX⟩:=bK8;have a:0<x.aq.length:=pd cP;have l:0<x.aH.length:=pd ja
 have m:gU C {x with res:=r,aN:= -1,k:=0,ae:=31}/\Ej {x with res:=r,aN:= -1,k:=0,ae:=31}/\nm {x with res:=r,aN:= -1,k:=0,ae:=31}:=by
  exact bZ3
 have dJ:∀c,aL {x with res:=r,aN:= -1,k:=0,ae:=31} c↔aL x c:=by
  intro c;unfold aL;rw[e,aF hk,aF hk];have d:bC x=0:=cl8
  have f:bC {x with res:=r,aN:= -1,k:=0,ae:=31}=0:=cl8
  rw[d,f]
 have o:cV (aP x) C {x with res:=r,aN:= -1,k:=0,ae:=31}:=b;exact ci2
theorem M.gA{y:bI}(h:(x.ae=24/\(x.k+1<x.aq)/\y={x with k:=x.k+1})\/(x.ae=24/\(x.k+1=x.aq)/\y={x with k:=0,ae:=25})\/(x.ae=31/\(x.k+1<x.aq)/\y={x with k:=x.k+1})\/(x.ae=31/\(x.k+1=x.aq)/\y={x with k:=0,ae:=32})):lH x y/\Loc C y/\∀c,aL y c↔aL x c\/x.aq[x.k.toNat]?=c:=by
 rcases h with⟨hp,a,hy⟩|⟨hp,a,hy⟩|⟨hp,a,hy⟩|⟨hp,a,hy⟩
 all_goals
  have e:aP y=aP x:=cr4
  obtain⟨s1,s2,s3⟩:=bT1;obtain⟨cP,ja,fX⟩:=bK8;have b:0<x.aq.length:=pd cP;have l:0<x.aH.length:=pd ja;have m:=s2.1 oX
  have nL:gU C y/\Ej y/\nm y:=by
   subst hy;exact bZ3
  have dJ:∀c,aL y c↔aL x c\/x.aq[x.k.toNat]?=some c:=by intro c;unfold aL;rw[e,aF hk,aF hk];have d:bC x=x.k.toNat:=cl8;have f:bC y=x.k.toNat+1:=(by subst hy;simp[bC,hp];omega);rw[d,f];have i:y.aq=x.aq:=cr4;rw[i];have j:x.k.toNat<x.aq.length:=oX;exact qj j
  have o:cV (aP x) C y↔cV (aP x) C x:=ct9
  subst hy;exact ci3
theorem M.am3(a:x.ae=24)(b:x.k+1<x.aq):lH x {x with k:=x.k+1}/\Loc C {x with k:=x.k+1}/\∀c,aL {x with k:=x.k+1} c↔aL x c\/x.aq[x.k.toNat]?=c:=M.gA L hk (.inl ⟨a,b,ii⟩)
theorem M.am4(a:x.ae=24)(b:x.k+1=x.aq):lH x {x with k:=0,ae:=25}/\Loc C {x with k:=0,ae:=25}/\∀c,aL {x with k:=0,ae:=25} c↔aL x c\/x.aq[x.k.toNat]?=c:=M.gA L hk (.inr (.inl ⟨a,b,ii⟩))
theorem M.am5(a:x.ae=31)(b:x.k+1<x.aq):lH x {x with k:=x.k+1}/\Loc C {x with k:=x.k+1}/\∀c,aL {x with k:=x.k+1} c↔aL x c\/x.aq[x.k.toNat]?=c:=M.gA L hk (.inr (.inr (.inl ⟨a,b,ii⟩)))
theorem M.am6(a:x.ae=31)(b:x.k+1=x.aq):lH x {x with k:=0,ae:=32}/\Loc C {x with k:=0,ae:=32}/\∀c,aL {x with k:=0,ae:=32} c↔aL x c\/x.aq[x.k.toNat]?=c:=M.gA L hk (.inr (.inr (.inr ⟨a,b,ii⟩)))
theorem M.gS{y:bI}(h:(x.ae=25/\(x.k+1<x.aH)/\y={x with k:=x.k+1})\/(x.ae=25/\∃(r:nP) (p:Int),(r.aJ=1\/r.aJ=2\/r.aJ=3)/\(cV (aP x) C {x with res:=r,lQ:=p,fire:=r.case})/\y={x with res:=r,lQ:=p,fire:=r.case,k:=x.aq,ae:=30})\/(x.ae=26/\y={x with br:= -1,ae:=25})\/(x.ae=27/\∃(r:nP),(r.aJ=1)/\(cV (aP x) C {x with res:=r})/\y={x with res:=r,br:= -1,k:=x.aq,ae:=30})):lH x y/\Loc C y/\∀c,aL y c↔aL x c:=by
 rcases h with⟨hp,j,hy⟩|⟨hp,r,p,d,a,hy⟩|⟨hp,hy⟩|⟨hp,r,d,a,hy⟩
 all_goals
  have e:aP y=aP x:=cr4
  obtain⟨s1,s2,s3⟩:=bT1;obtain⟨cP,ja,fX⟩:=bK8;have b:0<x.aq.length:=pd cP;have l:0<x.aH.length:=pd ja;have m:=bT2
  have nL:gU C y/\Ej y/\nm y:=by
   subst hy;exact bZ3
  have dJ:∀c,aL y c↔aL x c:=cy1
  first|(have f:cV (aP x) C y:=by subst hy;exact a)|(have f:cV (aP x) C y↔cV (aP x) C x:=ct9)
  subst hy;obtain⟨l1,l2,l3,l4,l5,l6,l7,i,l9,kN,kO,kP,kQ,kR,o,q,kS,s,kT,kY,u,kU,kV,kW⟩:=L;clear i fX;refine⟨?_,?_,dJ⟩
  .exact ci4
  clear dJ s1 s3 s2;exact bZ2
theorem M.am7(a:x.ae=25)(b:x.k+1<x.aH):lH x {x with k:=x.k+1}/\Loc C {x with k:=x.k+1}/\∀c,aL {x with k:=x.k+1} c↔aL x c:=M.gS L hk (.inl ⟨a,b,ii⟩)
theorem M.am8(a:x.ae=25)(r:nP)(p:Int)(b:r.aJ=1\/r.aJ=2\/r.aJ=3)(d:cV (aP x) C {x with res:=r,lQ:=p,fire:=r.case}):lH x {x with res:=r,lQ:=p,fire:=r.case,k:=x.aq,ae:=30}/\Loc C {x with res:=r,lQ:=p,fire:=r.case,k:=x.aq,ae:=30}/\∀c,aL {x with res:=r,lQ:=p,fire:=r.case,k:=x.aq,ae:=30} c↔aL x c:=M.gS L hk (.inr (.inl ⟨a,r,p,b,d,ii⟩))
theorem M.am9(a:x.ae=26):lH x {x with br:= -1,ae:=25}/\Loc C {x with br:= -1,ae:=25}/\∀c,aL {x with br:= -1,ae:=25} c↔aL x c:=M.gS L hk (.inr (.inr (.inl ⟨a,ii⟩)))
theorem M.c27(a:x.ae=27)(r:nP)(b:r.aJ=1)(d:cV (aP x) C {x with res:=r}):lH x {x with res:=r,br:= -1,k:=x.aq,ae:=30}/\Loc C {x with res:=r,br:= -1,k:=x.aq,ae:=30}/\∀c,aL {x with res:=r,br:= -1,k:=x.aq,ae:=30} c↔aL x c:=M.gS L hk (.inr (.inr (.inr ⟨a,r,b,d,ii⟩)))
theorem M.an0(hp:x.ae=25)(u:(aP x).dG=false):Loc C {x with bA:=List.replicate (aP x).cases.length (-1),k:=0,ae:=28}/\∀c,aL {x with bA:=List.replicate (aP x).cases.length (-1),k:=0,ae:=28} c↔aL x c:=by
 have e:aP {x with bA:=List.replicate (aP x).cases.length (-1),k:=0,ae:=28}=aP x:=rfl;obtain⟨s1,s2,s3⟩:=bT1;obtain⟨l,m,fX⟩:=bK8;have b:0<x.aq.length:=pd l;have v:0<x.aH.length:=pd m;have y:=bT2
 have z:gU C {x with bA:=List.replicate (aP x).cases.length (-1),k:=0,ae:=28}/\Ej {x with bA:=List.replicate (aP x).cases.length (-1),k:=0,ae:=28}/\nm {x with bA:=List.replicate (aP x).cases.length (-1),k:=0,ae:=28}:=by
  refine⟨s1.mk' ii ii ii,?_,?_⟩
  .exact bZ5
  refine⟨λh=>cj5,λ_=>(by simp only[vE];rw[e]),λi s a o=>?_,λh=>cj5,λh=>cj5,λ_ j i d f=>?_,λ_ j i d f=>(by simp only at d;omega)⟩
  .simp only[uA]at a;split at a
   .cases a;exact aX ii o
   cases a
  obtain⟨A,c,p,_⟩:=s1.ord i (lf f);have:=um p;simp only[uA];rw[aF this]
 have dJ:∀c,aL {x with bA:=List.replicate (aP x).cases.length (-1),k:=0,ae:=28} c↔aL x c:=by
  intro c;unfold aL;rw[e,aF hk,aF hk];have q:bC x=x.aq.length:=cl8
  have r:bC {x with bA:=List.replicate (aP x).cases.length (-1),k:=0,ae:=28}=x.aq.length:=cl8
  rw[q,r]
 exact ci2
theorem M.gT{y:bI}(h:(x.ae=25/\∃(s:Nat),y={x with br:=s,ae:=26})\/(x.ae=25/\∃(s:Nat) (a p q:Int) (f:Int),(∃j:Nat,x.k=j/\x.aH[j]?=f)/\y={x with br:=s,t:=a,lQ:=p,bF:=q,fire:=f,ae:=27})\/(x.ae=26/\∃(a p q:Int) (f:Int),(∃j:Nat,x.k=j/\x.aH[j]?=f)/\y={x with t:=a,lQ:=p,bF:=q,fire:=f,ae:=27})\/(x.ae=28/\y={x with res:={x.res with aJ:=6},k:=x.aq,ae:=30})):Loc C y/\∀c,aL y c↔aL x c:=by
 rcases h with⟨hp,s,hy⟩|⟨hp,s,a,p,q,f,i,hy⟩|⟨hp,a,p,q,f,i,hy⟩|⟨hp,hy⟩
 all_goals
  have e:aP y=aP x:=cr4
  obtain⟨s1,s2,s3⟩:=bT1;obtain⟨cP,ja,fX⟩:=bK8;have b:0<x.aq.length:=pd cP;have o:0<x.aH.length:=pd ja;have r:=bT2
  have u:gU C y/\Ej y/\nm y:=by
   subst hy;exact bZ3
  have d:∀c,aL y c↔aL x c:=cy1
  first|(have l:cV (aP x) C y:=by subst hy;exact .inr (.inr ⟨ii,L.dG hp,(L.cO hk oX).2.1⟩))|(have l:cV (aP x) C y↔cV (aP x) C x:=ct9)|(skip)
  subst hy;obtain⟨v,z,A,B,D,E,F,m,G,H,I,J,K,Q,R,S,T,U,W,X,Y,Z,kV,kW⟩:=L;clear m fX;refine⟨?_,d⟩;clear d s1 s3 s2;constructor<;>simp only[e,hp,aW,aT,bm,bG]at*<;>grind
theorem M.an1(a:x.ae=25)(s:Nat):Loc C {x with br:=s,ae:=26}/\∀c,aL {x with br:=s,ae:=26} c↔aL x c:=M.gT L hk (.inl ⟨a,s,ii⟩)
theorem M.an2(b:x.ae=25)(s:Nat)(a p q:Int)(f:Int)(d:∃j:Nat,x.k=j/\x.aH[j]?=f):Loc C {x with br:=s,t:=a,lQ:=p,bF:=q,fire:=f,ae:=27}/\∀c,aL {x with br:=s,t:=a,lQ:=p,bF:=q,fire:=f,ae:=27} c↔aL x c:=M.gT L hk (.inr (.inl ⟨b,s,a,p,q,f,d,ii⟩))
theorem M.an3(b:x.ae=26)(a p q:Int)(f:Int)(d:∃j:Nat,x.k=j/\x.aH[j]?=f):Loc C {x with t:=a,lQ:=p,bF:=q,fire:=f,ae:=27}/\∀c,aL {x with t:=a,lQ:=p,bF:=q,fire:=f,ae:=27} c↔aL x c:=M.gT L hk (.inr (.inr (.inl ⟨b,a,p,q,f,d,ii⟩)))
theorem M.an4(a:x.ae=28):Loc C {x with res:={x.res with aJ:=6},k:=x.aq,ae:=30}/\∀c,aL {x with res:={x.res with aJ:=6},k:=x.aq,ae:=30} c↔aL x c:=M.gT L hk (.inr (.inr (.inr ⟨a,ii⟩)))
theorem M.gR{y:bI}(h:(x.ae=30/\(1<x.k)/\y={x with k:=x.k-1})\/(x.ae=30/\(x.k=1)/\(x.res.aJ=0)/\y={x with k:=x.k-1,ae:=13})\/(x.ae=30/\(x.k=1)/\(x.res.aJ≠0)/\(x.bA≠[])/\y={x with k:=x.k-1,ae:=34})\/(x.ae=33/\(1<x.k)/\y={x with k:=x.k-1})\/(x.ae=33/\(x.k=1)/\y={x with k:=x.k-1,ae:=34})):lH x y/\Loc C y/\∀c,aL y c↔aL x c/\x.aq[(x.k-1).toNat]?≠c:=by
 rcases h with⟨hp,a,hy⟩|⟨hp,a,d,hy⟩|⟨hp,a,d,f,hy⟩|⟨hp,a,hy⟩|⟨hp,a,hy⟩
 all_goals
  have e:aP y=aP x:=cr4
  obtain⟨s1,s2,s3⟩:=bT1;obtain⟨cP,ja,fX⟩:=bK8;have b:0<x.aq.length:=pd cP;have j:0<x.aH.length:=pd ja;have l:=bT3
  have nL:gU C y/\Ej y/\nm y:=by
   subst hy;exact bZ3
  have dJ:∀c,aL y c↔aL x c/\x.aq[(x.k-1).toNat]?≠some c:=by
   exact ca6
  try have m:x.res.aJ≠1:=λh=>f (s3.none_ oX)
  have o:cV (aP x) C y↔cV (aP x) C x:=ct9
  subst hy;obtain⟨l1,l2,l3,l4,l5,l6,l7,i,l9,kN,kO,kP,kQ,kR,p,q,kS,r,kT,kY,s,kU,kV,kW⟩:=L;clear i fX;refine⟨?_,?_,dJ⟩
  .exact ci4
  clear dJ s1 s3 s2;exact bZ2
theorem M.an5(a:x.ae=30)(b:1<x.k):lH x {x with k:=x.k-1}/\Loc C {x with k:=x.k-1}/\∀c,aL {x with k:=x.k-1} c↔aL x c/\x.aq[(x.k-1).toNat]?≠c:=M.gR L hk (.inl ⟨a,b,ii⟩)
theorem M.an6(a:x.ae=30)(b:x.k=1)(d:x.res.aJ=0):lH x {x with k:=x.k-1,ae:=13}/\Loc C {x with k:=x.k-1,ae:=13}/\∀c,aL {x with k:=x.k-1,ae:=13} c↔aL x c/\x.aq[(x.k-1).toNat]?≠c:=M.gR L hk (.inr (.inl ⟨a,b,d,ii⟩))
theorem M.an7(a:x.ae=30)(b:x.k=1)(d:x.res.aJ≠0)(e:x.bA≠[]):lH x {x with k:=x.k-1,ae:=34}/\Loc C {x with k:=x.k-1,ae:=34}/\∀c,aL {x with k:=x.k-1,ae:=34} c↔aL x c/\x.aq[(x.k-1).toNat]?≠c:=M.gR L hk (.inr (.inr (.inl ⟨a,b,d,e,ii⟩)))
theorem M.an8(a:x.ae=33)(b:1<x.k):lH x {x with k:=x.k-1}/\Loc C {x with k:=x.k-1}/\∀c,aL {x with k:=x.k-1} c↔aL x c/\x.aq[(x.k-1).toNat]?≠c:=M.gR L hk (.inr (.inr (.inr (.inl ⟨a,b,ii⟩))))
theorem M.an9(a:x.ae=33)(b:x.k=1):lH x {x with k:=x.k-1,ae:=34}/\Loc C {x with k:=x.k-1,ae:=34}/\∀c,aL {x with k:=x.k-1,ae:=34} c↔aL x c/\x.aq[(x.k-1).toNat]?≠c:=M.gR L hk (.inr (.inr (.inr (.inr ⟨a,b,ii⟩))))
theorem M.gQ{y:bI}(h:(x.ae=30/\(x.k=1)/\(x.res.aJ≠0)/\(∀s∈x.bA,s= -1)/\(x.OK≠[])/\y={x with k:=x.k-1,ae:=17})\/(x.ae=30/\(x.k=1)/\(x.res.aJ≠0)/\(∀s∈x.bA,s= -1)/\(x.OK=[])/\y={x with k:=x.k-1,ae:=18})):lH x y/\Loc C y/\∀c,aL y c↔aL x c/\x.aq[(x.k-1).toNat]?≠c:=by
 rcases h with⟨hp,f,i,j,l,hy⟩|⟨hp,f,i,j,l,hy⟩
 all_goals
  have e:aP y=aP x:=cr4
  obtain⟨s1,s2,b⟩:=bT1;obtain⟨m,o,fX⟩:=bK8;have d:0<x.aq.length:=pd m;have U:0<x.aH.length:=pd o;have W:=bT3
  have a:∀c,aL y c↔aL x c/\x.aq[(x.k-1).toNat]?≠some c:=by
   exact ca6
  have X:cV (aP x) C y↔cV (aP x) C x:=ct9
  subst hy;obtain⟨p,q,r,u,v,z,A,B,D,E,F,G,H,I,Y,Z,J,mV,K,Q,mW,R,S,T⟩:=L;clear B fX;refine⟨?_,?_,a⟩
  .clear p q r u v z A D E F G H I J K Q R S T a s1 b;exact bZ4
  clear a s1 b s2;exact bZ2
theorem M.ao0(a:x.ae=30)(b:x.k=1)(d:x.res.aJ≠0)(e:∀s∈x.bA,s= -1)(f:x.OK≠[]):lH x {x with k:=x.k-1,ae:=17}/\Loc C {x with k:=x.k-1,ae:=17}/\∀c,aL {x with k:=x.k-1,ae:=17} c↔aL x c/\x.aq[(x.k-1).toNat]?≠c:=M.gQ L hk (.inl ⟨a,b,d,e,f,ii⟩)
theorem M.ao1(a:x.ae=30)(b:x.k=1)(d:x.res.aJ≠0)(e:∀s∈x.bA,s= -1)(f:x.OK=[]):lH x {x with k:=x.k-1,ae:=18}/\Loc C {x with k:=x.k-1,ae:=18}/\∀c,aL {x with k:=x.k-1,ae:=18} c↔aL x c/\x.aq[(x.k-1).toNat]?≠c:=M.gQ L hk (.inr ⟨a,b,d,e,f,ii⟩)
end
end
end V
open Go.RowKit Go.Proofs.Tryz
section
variable{af:Nat}{F:Fx}{w:World}{m m':Mem}{S:Wd}{L:List (Nat×Obj)}
section
variable(R:bz af F w m S)
include R
theorem Mx(f:∀v∈S.list,0<=v/\v<=65535)(n:Int)(a:1<=n/\n<=100000)(g:0<=S.drawn/\S.drawn<=1000000):gt 197 #[F.gN,n] w (eL (gw S.list S.drawn n).1 λw'=>At af F m w m w' {S with drawn:=(gw S.list S.drawn n).2}):=by
 unfold gw;by_cases h:(S.list.length:Int)<=S.drawn
 .rw[aF (.inr h)];exact Ss R n a S.drawn ii h
 rw[aE oX];obtain⟨d,b⟩:=pz g.1;have c:d<S.list.length:=oX
 have e:S.list[d]?=S.list[d]:=fv c;have h:=Oa R n a d b oX _ e (f _ (at2 c));rw[b,eR,e];exact h
theorem PZ(g:Int):gt 137 #[F.dB,g] w (eL (.bool (Av S.ax g).2) λw'=>At af F m w m w' {S with ax:=(Av S.ax g).1}):=by
 have k:=R.Bu;have pI:=bO3;have HR:=bM3;unfold Av;by_cases h0:bU S.ax g=0
 .obtain⟨j,rfl,l,a⟩:=bO4;rw[h0]at a pI;rw[aE (by rw[h0];simp)];obtain⟨c,d⟩:=bO5;rw[<-d]at a;obtain⟨n,o⟩:=R.one a;have f0:=R.frozen R.aB.ax (j*2);have f1:=R.frozen R.aB.ax (j*2+1);have f:=HR.out.one (q:=0) a (2,c) oX (v:=I 2) ii;have i:=f.one (j:=j) (q:=1) (x:=(2,c)) (by show(S.ax.set j (2,c))[j]?=_;exact getElem?_set_self' a) (2,false) oX (v:=B false) ii;have Ap:=ag (i.eq (S':={S with ax:=S.ax.set j (2,false)}) sX);clear R a h0 d f i;go_enter func137,ntmps137;exact cb0
 rw[aF h0];obtain⟨a,c⟩:∃a,a=bU S.ax g:=⟨_,ii⟩;rw[<-c]at pI h0;have d:(a !=0)=true:=cq3
 clear R c;go_enter func137,ntmps137;exact ci7
theorem zC(g:Nat)(S':Wd)(a:never S g=S'):gt 139 #[bR F,I g] w (ee λw'=>At af F m w m w' S'):=by
 obtain⟨x,hx,rfl⟩:=Nb a;have c4:=R.nJ;have d:=bM3;have HX:=bL7;have i:=bM1;clear R a hx;unfold bR;go_enter func139,ntmps139;go_wp2_with (go_at_call 157;refine(Kl d.out g).mono ?_;rintro e j ⟨⟨b,rfl⟩,A1⟩;have R1:=bR3;obtain⟨c3,k,l⟩:=bK9;have n:=bR4;have o:=bR5;have c:=A1.g HX {x with ae:=19} (q:=2) (v:=I 19);have f:=ag c;clear A1 c R1);go_end0;exact⟨ii,f⟩
theorem bj9(g:Nat)(a:Int)(S':Wd)(b:Nc S g a=S'):gt 140 #[bR F,I g,a] w (ee λw'=>At af F m w m w' S'):=by
 unfold Nc fL at b
 cases hx:S.gs[g]? with
 |none=>rw[hx]at b;cases b
 |some x=>
  rw[hx]at b
  cases b;have c2:=R.dM;have c3:=R.eu;have o:=bM1;obtain⟨p,r⟩:=bM2;obtain⟨f,s⟩:=bQ4;obtain⟨i,t⟩:=bQ5;obtain⟨j,y⟩:=bQ6;obtain⟨k,z⟩:=bQ7;obtain⟨l,A⟩:=bQ8;obtain⟨n,B⟩:=bQ9;obtain⟨C,E,G,H⟩:=R.pB;have e:=(At.refl R).res hx {aJ:=a,case:= -1};have c:=e.g (az hx) {x with res:={aJ:=a,case:= -1},lQ:=S.av} (q:=12) (v:=I S.av)
  rw[aA]at c;have d:=c.g (az hx) {x with res:={aJ:=a,case:= -1},lQ:=S.av,ae:=18} (q:=2) (v:=I 18);rw[aA]at d;have J:=ag d;clear R hx e c d;unfold bR;go_enter func140,ntmps140;go_wp2;go_end0;grind [Hid.out]
end
end
theorem Sy:(prog.info? 2).map (λi=>(i.zero,i.size,i.bytes))=(some (I 0),1,8):=kX
theorem underlying57:prog.underlying 57=some (.slice 2):=kX
theorem bk1{B:Nat}(h:v.ownsRow B n 1 (z,p,p) p J):v.heap[z]?=some (.cells J.toArray n (0,0)):=rX h
structure Kb(w w':World)(n rb pb:Nat):Prop where
 below:Below w w w'
 rb0:w<=rb
 pb0:w<=pb
 ne:rb≠pb
 eU:w'.heap[rb]?=some (.cells #[(pb,n,n),I 0,I 0] 159 (0,0))
 pl0:w'.heap[pb]?=some (.cells (List.replicate n (I 0)).toArray 2 (0,0))
theorem wY(n:Nat)(r:n<=64)(w:World):gt 193 #[I n,()] w λe i=>∃d j:Nat,e=Value.tuple #[d,I 0]/\Kb w i n d j:=by
 obtain⟨l,m,o,p,gG⟩:=AC Sy;have s:decide ((n:Int)<0)=false:=sX
 have t:decide ((64:Int)<(n:Int))=false:=ci8
 go_enter func193,ntmps193;go_wp2_with (at_make;go_loud (refine bH5 _ ii _ _ 57 rfl w 2 l (.int .i64 0) 1 underlying57 m o p _ _ _ _ n ii ii ii ii cl1 cj7 cG ?_));intro b a f;have c:Below w w b:=(fp).grown f cG cm0;rw[ay0]at a;have g:=ag (bk1 a);clear a f;go_wp2_with (with_reducible refine wpList_copy_nothing ii (.tmp 28) (.tmp 29) 57 57 rfl 2 underlying57 kX _ _ _ _ _ _ ii ii sX ?_);go_ret2;have q:w.heap.size<b.heap.size:=(dh g.out).1;refine⟨b.heap.size,w.heap.size,ii,c.alloc c.size _,c.size,rx _,oX,ag7 b _,?_⟩;rw[gf b _ _ q];exact g.out
theorem CW(n:Nat)(d:n<=64)(w:World):gt 200 #[I n] w λe c=>∃a b:Nat,e=Value.tuple #[a,I 0]/\Kb w c n a b:=by
 have f:=ag (λw=>wY n d w);go_enter func200,ntmps200;go_wp2_with (go_at_call 193;refine(f _).mono ?_;rintro e c ⟨a,b,rfl,h⟩;have g:=ag h;clear h);go_ret2;exact⟨a,b,ii,g⟩
theorem fY.rd{d:be}{e:CK->Option Nat}{cap:CK->Nat}{c:CK->bi}(H:fY z u w' d p 0 e cap c){i:Nat}(B:i<p)(G:(d.getD i []).length<=9223372036854775807)(I:∀o∈d.getD i [],pW o.ai/\pW o.ch/\pW o.n/\pW o.v/\o.cases.length<=9223372036854775807/\∀c∈o.cases,pW c.ch/\pW c.v)(J:∀b,z<=b->b<w'->w2.heap[b]?=w'.heap[b]?):kC w2 (UH (e (some (.ops i)))) (d.getD i []):=by
 refine⟨G,λq o j=>?_⟩;have C:=H.rows i B
 obtain⟨b,g⟩:∃b,e (some (.ops i))=some b:=by
  cases g:e (some (.ops i)) with
  |none=>
   have:=H.own.none_ _ g;rw[C]at this;rw[nu (f:=J6 e cap i) (k:=6) (λ_ _=>rfl) dX this]at j
   cases j
  |some b=>exact⟨b,ii⟩
 obtain⟨K,L,M,N,D,O⟩:=I o (lf j);have l:∀(k:CK) (b p:Nat) (v:Value),e k=some b->w'.cell? ⟨b,p,none⟩=some v->w2.cell? ⟨b,p,none⟩=some v:=λk b p v g m=>by rw[kZ (w:=w') (a:=⟨b,p,none⟩) (J b (H.own.lies k b g).1 (H.own.lt g))];exact m
 have cell:=λt s v m=>l _ _ _ _ g <| H.own.cell (k:=some (.ops i)) (j:=q*6+t) (v:=v) g (by rw[C];have:=fq (f:=J6 e cap i) (k:=6) (λ_ _=>rfl) (d.getD i []) 0 q t o j s;rw[wl]at this;rw[this];exact m)
 obtain⟨x,w,Q,y⟩:∃x w,nG (e (some (.cases i q))) o.cases (cap (some (.cases i q)))=.slice x o.cases w/\gW w2 x o.cases:=by
  have E:=H.rU i q o (.inl B) j
  cases A:e (some (.cases i q)) with
  |none=>
   have:=H.own.none_ _ A;rw[E]at this;have F:=nu (f:=fT) (k:=3) (λ_ _=>rfl) dX this;refine⟨none,0,by rw[F];rfl,D,λk c r=>?_⟩;rw[F]at r;cases r
  |some F=>
   refine⟨_,_,ii,D,λk c r=>⟨F,0,ii,?_⟩⟩;have c2:=λt s v m=>l _ _ _ _ A <| H.own.cell (k:=some (.cases i q)) (j:=k*3+t) (v:=v) A (by rw[E];have:=fq (f:=fT) (k:=3) (λ_ _=>rfl) o.cases 0 k t c r s;rw[this];exact m)
   have:=O c (lf r);simp only[wl];exact⟨c2 0 oX _ ii,c2 1 oX _ ii,c2 2 oX _ ii,this.1,this.2⟩
 refine⟨b,0,x,w,by rw[g];rfl,?_⟩;simp only[wl];exact⟨cell 0 oX _ ii,cell 1 oX _ ii,cell 2 oX _ ii,cell 3 oX _ ii,cell 4 oX _ (by rw[<-Q];rfl),cell 5 oX _ ii,y,K,L,M,N⟩
def Oo:dl->Nat->bi->dl
 |arr,_,[]=>arr
 |arr,o,v::a=>Oo (arr.setIfInBounds o v) (o+1) a
theorem oL{b:Nat}{t:TypeId}:∀(c:bi) (o:Nat) (w:World) (a:dl),w.heap[b]?=some (.cells a t (0,0))->(w.setCells b o c).heap[b]?=some (.cells (Oo a o c) t (0,0))
 | [],_,_,_,h=>h
 |v::c,o,w,a,h=>oL c (o+1) _ _ (ms w b o a t v h)
theorem BQ:∀(b:bi) (o:Nat) (a:dl),(Oo a o b).toList=fe a.toList o b
 | [],_,_=>rfl
 |v::b,o,a=>by rw[Oo,fe,BQ b (o+1),Array.toList_setIfInBounds]
theorem dI{b:Nat}{t:TypeId}{cs:dl}(h:v.heap[b]?=some (.cells us t (0,0)))(c:us.size=cs.size):(v.setCells b 0 cs.toList).heap[b]?=some (.cells cs t (0,0)):=by
 have a:=oL cs.toList 0 v us h;have e:=yG cs.toList us.toList [] [] (by simpa using c);have d:Oo us 0 cs.toList=cs:=by grind [Array.toList_inj,BQ]
 rw[d]at a;exact a
theorem Below.setCells{B b:Nat}{a:World}(d:B<=b):∀(c:bi) (o:Nat) (w:World),Below B a w->Below B a (w.setCells b o c)
 | [],_,_,h=>h
 |v::c,o,w,h=>Below.setCells d c (o+1) _ (h.setCell d v)
theorem mR{f:Value->Bool}(h:us.all f){v:Value}(a:f v):(us.setIfInBounds n v).all f:=by
 grind
def CY(a:go):Prop:=a.length<=100/\∀o∈a,pW o.ai/\pW o.ch/\pW o.n/\pW o.v/\o.cases.length<=100/\∀c∈o.cases,pW c.ch/\pW c.v
theorem BR{a:go}(h:CY a):CQ [a]:=by
 refine⟨sX,λj=>?_,λj k o b=>?_⟩
 .cases j with
  |zero=>exact h.1
  |succ j=>simp
 cases j with
 |zero=>exact(h.2 o (lf b)).2.2.2.2.1
 |succ j=>simp at b
def qh(A:dl)(a b c d e:Value):dl:=((((A.setIfInBounds 0 a).setIfInBounds 20 b).setIfInBounds 21 c).setIfInBounds 22 d).setIfInBounds 23 e
structure CG(w W:World)(bx rs:Nat)(A Z:dl):Prop where
 below:Below w w W
 le:w<=bx/\w<=rs/\bx≠rs
 box:W.heap[bx]?=some (.cells A 100 (0,0))
 res:W.heap[rs]?=some (.cells Z 100 (0,0))
section
variable{w:World}
theorem CG.call(H:CG w u z p us c2)(a:Below u u f):CG w f z p us c2:=
 ⟨H.below.trans (a.mono H.below.size),H.le,(a.block _ (dh H.box).1).trans H.box,(a.block _ (dh H.res).1).trans H.res⟩
theorem CG.alloc(H:CG w u z p us c2)(o:Obj):CG w (u.alloc o) z p us c2:=H.call ((fp).alloc cG o)
theorem CG.grown(H:CG w u z p us c2)(a:u.grownBy f none):CG w f z p us c2:=H.call ((fp).grown a cG (by intro k b;cases b))
theorem CG.set(H:CG w u z p us c2)(j:Nat)(v:Value):CG w (u.setCell (z,j) v) z p (us.setIfInBounds j v) c2:=
 ⟨H.below.setCell H.le.1 v,H.le,ms u z j us 100 v H.box,(fQ (by simpa using dE H.le.2.2)).trans H.res⟩
theorem CG.cell(H:CG w u z p us c2){j:Nat}{v:Value}(h:us[j]?=v):u.cell? (z,j)=v:=by rw[cr H.box];exact h
theorem CG.frozen(H:CG w u z p us c2)(j:Nat):u.frozen? (z,j)=false:=iM _ _ _ H.box
theorem CG.Ib(H:CG w u z p us c2){a:am}(h:gC w a n J):gC u a n J:=h.below H.below cG
end
theorem gC.grown(h:gC v A n J)(a:Below v v u):gC u A n J:=h.below a cG
theorem gC.set{w:World}(h:gC w A n J){b j:Nat}(v:Value)(d:∀(a:Nat) (off:Nat),A=(a,off)->a≠b):gC (w.setCell (b,j) v) A n J:=λc=>by
 obtain⟨a,off,e,f⟩:=h c;grind [Go.World.cell?_of_block,Go.RowKit.Below.heap_setCell]
def iR(c:Nat)(w a:World):Prop:=w<=a.heap.size/\∀b,c<=b->b<w->a.heap[b]?=w.heap[b]?
theorem iR.mono(h:iR n v u)(c:n<=z):iR z v u:=⟨h.1,λb d a=>h.2 b (by omega) a⟩
theorem iR.trans{a:Nat}{w c d:World}(h:iR a w c)(k:iR a c d):iR a w d:=⟨jm h.1 k.1,λb e f=>(k.2 b e (uB f h.1)).trans (h.2 b e f)⟩
theorem iR.below(h:Below v v u):iR n v u:=⟨h.size,λb _ a=>h.block b a⟩
theorem iR.set{w:World}{b j:Nat}{v:Value}(h:b<n):iR n w (w.setCell (b,j) v):=⟨by simp[World.setCell],λa c _=>fQ (by simp;omega)⟩
theorem iR.Za{c b:Nat}(h:b<c):∀(a:bi) (j:Nat) (w:World),iR c w (w.setCells b j a)
 | [],_,w=>⟨rx _,λ_ _ _=>rfl⟩
 |v::a,j,w=>(iR.set (w:=w) (j:=j) (v:=v) h).trans (iR.Za h a (j+1) _)
theorem gC.keep(h:gC v A n J)(d:iR z v u)(f:∀(b:Nat) (off:Nat),A=(b,off)->z<=b):gC u A n J:=λg=>by
 obtain⟨b,off,e,i⟩:=h g;refine⟨b,off,e,λj a k=>?_⟩;have c:=i j a k;rw[kZ (w:=v) (a:=⟨b,off+j,none⟩) (d.2 b (f b off e) (ba0 _ _ c))];exact c
def lO(a:Nat)(w W:World):Prop:=∀b,a<=b->b<w->W.heap[b]?=w.heap[b]?
theorem iR.aX8(h:iR n v u)(k:lO z u f)(d:z<=n):lO n v f:=λb c a=>(k b (by omega) (uB a h.1)).trans (h.2 b c a)
theorem gC.aX8(h:gC v A n J)(d:lO z v u)(f:∀(b:Nat) (off:Nat),A=(b,off)->z<=b):gC u A n J:=λg=>by
 obtain⟨b,off,e,i⟩:=h g;refine⟨b,off,e,λj a k=>?_⟩;have c:=i j a k;rw[kZ (w:=v) (a:=⟨b,off+j,none⟩) (d b (f b off e) (ba0 _ _ c))];exact c
theorem cN.Xb{κ:Type}{a:κ->Option Nat}{d:κ->Option (Nat×Nat)}{cap:κ->Nat}{c:κ->bi}(H:cN n v f a d cap c)(g:Below z u f)(e:z<=n):cN z u f a d cap c:=
 ⟨g,jm e H.tL,H.inj,λk b h=>⟨jm e (H.lies k b h).1,(H.lies k b h).2⟩,H.none_⟩
theorem cN.others{κ:Type}{d:Nat}{g:World}{e:κ->Option Nat}{h:κ->Option (Nat×Nat)}{cap:κ->Nat}{c:κ->bi}{b:Nat}(i:∀k,e k≠b)(l:d<=b):∀(f:bi) (j:Nat) (w:World),cN d g w e h cap c->cN d g (w.setCells b j f) e h cap c
 | [],_,_,H=>H
 |v::f,j,w,H=>cN.others i l f (j+1) _ (H.other (a:=(b,j)) i l v)
structure JD(w w':World)(os:go)(aV:CK->Option Nat)(cap:CK->Nat)(c:CK->bi):Prop where
 own:cN w w w' aV Nl cap c
 row:c (some (.ops 0))=bT (J6 aV cap 0) 0 os
 cs:∀(q:Nat) o,os[q]?=some o->c (some (.cases 0 q))=bT fT 0 o.cases
 less:∀(q:Nat),os[q]?=none->aV (some (.cases 0 q))=none
theorem Cq(b:Option Nat)(n c:Nat):∃a d e,nG b n c=.slice a d e:=by
 unfold nG;split;all_goals grind
theorem GK(A:dl)(p:A.size=25)(Zb:A.all (·.oneCell'))(u:go)(D:am)(H:Nat)(T:A[0]?=some (.slice D u H))(U:CY u)(r1 r2 r3 r4:am)(c1 c2 c3 c4:Nat)(a1:A[20]?=some (.slice r1 0 c1))(a2:A[21]?=some (.slice r2 0 c2))(a3:A[22]?=some (.slice r3 0 c3))(a4:A[23]?=some (.slice r4 0 c4))(w:World)(ho:kC w D u):gt 49 #[.agg A] w λe y=>∃l cap c,e=Value.agg (qh A (nG (l (some (.ops 0))) u (cap (some (.ops 0)))) () () () ())/\JD w y u l cap c:=by
 obtain⟨i0,z,fV,jC,gG⟩:=AC lC;go_enter func49,ntmps49;go_upto_region 1 with fail
 obtain⟨Z,X⟩:∃Z:dl,Z=#[Value.slice none 0 0,I 0,I 0,I 0,B false,I 0,B false,I 0,I 0,I 0,I 0,I 0,I 0,I 0,I 0,I 0,I 0,I 0,B false,I 0,Value.slice none 0 0,Value.slice none 0 0,Value.slice none 0 0,Value.slice none 0 0,I 0]:=⟨_,ii⟩;obtain⟨f,Y⟩:∃b,b=w.heap.size:=⟨_,ii⟩;obtain⟨E,vY⟩:∃b,b=w.heap.size+1:=⟨_,ii⟩;obtain⟨m,x⟩:∃W,W=(w.alloc (.cells A 100)).alloc (.cells Z 100):=⟨_,ii⟩;have UJ:Z.size=25:=by rw[X];rfl
 rw[<-X,<-vY,<-Y,<-x];have a5:m=w.heap.size+2:=by rw[x];simp
 have d:CG w m f E A Z:=by
  have s1:(w.alloc (.cells A 100)).heap.size=w.heap.size+1:=sX
  rw[x];exact⟨((fp).alloc cG _).alloc ck7 _,oX,by rw[Y];exact(gf _ _ _ ck7).trans (dP),by rw[vY,<-s1];exact dP⟩
 have x0:=d.cell T;obtain⟨n,F⟩:=dC (u.length);have Zc:n<=100:=by rw[F];exact U.1
 obtain⟨q,hq⟩:=dC (m.heap.size);rw[<-F]at x0
 have tP:Hid (gt 83 #[.slice (some ⟨q,0,none⟩) 1 1] (m.alloc (.cells #[(D,n,H)] 50)) λe y=>∃g L r s t,e=Value.slice (some ⟨g,0,none⟩) 1 L/\y.cell? ⟨g,0,none⟩=some (.slice r s t)/\Below m m y/\
   ∃l cap c,.slice r s t=nG (l (some (.ops 0))) n (cap (some (.ops 0)))/\JD w y u l cap c/\∀k b,l k=some b->m<=b):=by
  have jF:aH1 (m.alloc (.cells #[(D,n,H)] 50)) (some ⟨q,0,none⟩) [u]:=by
   refine⟨sX,λi ak z=>?_⟩
   cases i with
   |zero=>
    simp at z;subst z;refine⟨q,0,D,H,ii,?_,?_⟩
    .rw[hq,<-F,cr (dP)];rfl
    .exact ho.below (d.alloc _).below cG
   |succ i=>simp at z
  refine(tQ [u] 1 rfl (some ⟨q,0,none⟩) 1 _ jF (BR U)).mono ?_;rintro e y ⟨g,L,l,cap,c,rfl,C,h1,h2⟩;obtain⟨r,s,t,M⟩:=Cq (l (some (.ops 0))) n (cap (some (.ops 0)));have KS:Below m m y:=((fp).alloc cG _).trans (C.own.below.mono sX);have a6:Below w w y:=d.below.trans (KS.mono oX);refine⟨g,L,r,s,t,ii,?_,KS,l,cap,c,M.symm,⟨C.own.Xb a6 ci8,C.rows 0 oX,λq o h=>C.rU 0 q o (.inl oX) h,λq h=>C.less 0 q h⟩,λk b h=>?_⟩
  .rw[<-M];refine C.own.cell (k:=none) h1 ?_;rw[C.out,F];rfl
  have:=(C.own.lies k b h).1;simp at this;omega
 have a7:=ag d;have J:=ag (dO T (dO a1 (dO a2 (dO a3 a4))));obtain⟨N,UK,XF,Ke⟩:=ia p UJ Zb F;have a8:Hid (f<m.heap.size/\E<m.heap.size/\w<=f/\w<=E):=⟨oX,oX,oX,oX⟩;clear d T a1 a2 a3 a4 p UJ Zb x X Y vY ho U F a5;go_upto_region 2 with(go_at_call 83;rw[<-hq];refine tP.out.mono ?_;rintro e W1 ⟨g,L,r,s,t,rfl,y0,hb,O⟩;have Q:=a7.out.call hb;have a9:=Q.frozen 0;have ab:=Q.cell (j:=0) (v:=(D,n,H)) (by rw[Ke.out];exact J.out.1);obtain⟨Sz,D4⟩:=dA Q O;clear Q O hb)
 obtain⟨G,SA⟩:∃P,Hid (P=W1.setCell f (.slice r s t)):=⟨_,ii⟩;have d:=Sz.out.set 0 (.slice r s t);rw[<-SA.out]at d ⊢;have ad:G.cell? ⟨f,20,none⟩=some (.slice r1 0 c1):=d.cell (by rw[ur dX];exact J.out.2.1);have ae:G.cell? ⟨f,21,none⟩=some (.slice r2 0 c2):=d.cell (by rw[ur dX];exact J.out.2.2.1);have af:G.cell? ⟨f,22,none⟩=some (.slice r3 0 c3):=d.cell (by rw[ur dX];exact J.out.2.2.2.1);have ah:G.cell? ⟨f,23,none⟩=some (.slice r4 0 c4):=d.cell (by rw[ur dX];exact J.out.2.2.2.2);have f20:=d.frozen 20;have f21:=d.frozen 21;have f22:=d.frozen 22;have f23:=d.frozen 23;have Zd:=ag d;clear d y0 a9 ab x0
 go_upto_region 6 with(at_builtin;first
  |refine gO ii (.const ()) (.tmp 11) 28 rfl underlying28 z ii _ _ ii ?_
  |refine gO ii (.const ()) (.tmp 15) 28 rfl underlying28 z ii _ _ ii ?_
  |refine gO ii (.const ()) (.tmp 19) 28 rfl underlying28 z ii _ _ ii ?_
  |refine gO ii (.const ()) (.tmp 23) 28 rfl underlying28 z ii _ _ ii ?_)
 obtain⟨P4,K⟩:∃P,Hid (P=(((G.setCell ⟨f,20,none⟩ (.slice none 0 0)).setCell ⟨f,21,none⟩ (.slice none 0 0)).setCell ⟨f,22,none⟩ (.slice none 0 0)).setCell ⟨f,23,none⟩ (.slice none 0 0)):=⟨_,ii⟩;rw[<-K.out];have C4:=(((Zd.out.set 20 ()).set 21 ()).set 22 ()).set 23 ();rw[<-K.out]at C4;have R:=ag C4;clear C4 ad ae af ah f20 f21 f22 f23;refine as8 ?_;refine wpList_load_mid ii 100 (.tmp 1) ii f 0 rfl (qh A (.slice r s t) () () () ()) (λj v hv=>by rw[wl];exact R.out.cell hv) cQ.1 (by rw[cQ.2];simp[qh,N.out]) ?_
 refine JS ii 100 (.tmp 2) (.tmp 26) ii E 0 (qh A (.slice r s t) () () () ()) ii ii (by rw[cQ.2];simp[qh,N.out]) (λj hj=>by
   rw[cr R.out.res];have:j<25:=by simpa[qh,N.out]using hj
   rw[wl,xL (by rw[UK.out];exact this)];rfl) (λj hj=>iM _ _ _ R.out.res) (mR (mR (mR (mR (mR XF ii) ii) ii) ii) ii) ?_
 go_wp2;have p:(qh A (.slice r s t) () () () ()).size=25:=by simp[qh,N.out]
 have O:=dI (cs:=qh A (.slice r s t) () () () ()) R.out.res (by rw[p];exact UK);refine bj2 ii ii O ⟨cQ.1,(by rw[cQ.2,p])⟩ ?_;obtain⟨l,cap,c,M,S,ja⟩:=D4.out;obtain⟨l1,l2,l3,l4⟩:=a8.out;have cM:∀k,l k≠f:=λk e=>by have:=ja k f e;omega
 have ai:∀k,l k≠E:=λk e=>by have:=ja k E e;omega
 refine⟨l,cap,c,by rw[<-Ke.out,<-M],?_,S.row,S.cs,S.less⟩;have o0:cN w w G l Nl cap c:=by rw[SA.out];exact S.own.other (a:=f) cM l3 _
 have o4:cN w w P4 l Nl cap c:=by grind [Hid.out,cN.other]
 exact cN.others ai l4 _ _ _ o4
def xI(w d:World)(a b c:Nat):Prop:=w<=d.heap.size/\∀k,k<w.heap.size->k≠a->k≠b->k≠c->d.heap[k]?=w.heap[k]?
theorem xI.refl(w:World)(a b c:Nat):xI w w a b c:=⟨rx _,λ_ _ _ _ _=>rfl⟩
theorem xI.trans{w d e:World}{a b c:Nat}(h:xI w d a b c)(k:xI d e a b c):xI w e a b c:=
 ⟨jm h.1 k.1,λi f g j l=>(k.2 i (uB f h.1) g j l).trans (h.2 i f g j l)⟩
theorem xI.below{b:Nat}(h:Below v v u):xI v u n b z:=⟨h.size,λk a _ _ _=>h.block k a⟩
theorem xI.set{w:World}{b j:Nat}{v:Value}(h:p=n\/p=b\/p=z):xI w (w.setCell (p,j) v) n b z:=
 ⟨co3,λi a c d e=>fQ ci8⟩
theorem xI.grown{b:Nat}{r:Option Nat}(h:v.grownBy u r)(a:∀k,r=some k->k=n\/k=b\/k=z):xI v u n b z:=
 ⟨h.size,λi c d f g=>h.block i c (λe=>by have:=a i e.symm;omega)⟩
theorem D8(o:cu)(a:am)(c:Nat)(w:World)(h:gW w a o.cases):gt 42 #[.agg #[o.ai,o.ch,o.n,o.v,(a,o.cases.length,c),o.dG]] w (eL (.bool (yF o)) (Below w w)):=by
 cases hr:mI o with
 |false=>exact Bb o a c w _ ii hr
 |true=>
  have g:1<=o.ai/\o.ai<=9:=cu8
  by_cases b:o.ai=9
  .by_cases d:o.ch=0
   .by_cases e:o.v=0
    .by_cases f:o.n=0
     .exact Mk o b a c w h _ ii hr d e f
     exact aJ4 o b a c w ii hr (.inr (.inr f))
    exact aJ4 o b a c w ii hr (.inr (.inl e))
   exact aJ4 o b a c w ii hr (.inl d)
  have:o.ai=1\/o.ai=2\/o.ai=3\/o.ai=4\/o.ai=5\/o.ai=6\/o.ai=7\/o.ai=8:=oX
  exact Ml o this a c w _ ii hr
def D9(l:go):Bool:=l.all yF&&decide (l.length<=16)
theorem Ac(p:be):im p=(p.all D9&&decide (1<=p.length)&&decide (p.length<=8)):=rfl
theorem Ad(p:be)(n:Nat)(A:n=p)(a:am)(c:Nat)(w:World)(h:aH1 w a p):gt 22 #[(a,n,c)] w (eL (.bool (im p)) (Below w w)):=by
 have Z:n<=9223372036854775807:=by rw[A];exact h.1
 obtain⟨H,HN⟩:=dA h A;clear h A;go_enter func22,ntmps22;go_wp2;go_loopw [9] (λq wr=>∃i:Nat,q=.int .i64 i/\i<=n/\Hid ((p.take i).all D9=true)/\Hid (Below w w wr)) (λq _=>n-(intOf q).toNat)
 case atStart=>exact⟨0,ii,oX,(by simp:(p.take 0).all D9=true),fp⟩
 obtain⟨i,rfl,hi,M,k⟩:=hrel;by_cases dD:i<n
 .obtain⟨d,C⟩:∃d,p[i]?=some d:=⟨_,fv cn4⟩;obtain⟨b,off,r,c1,rfl,S,D⟩:=(H.out.below k cG).2 i d C;obtain⟨m,t⟩:=dC (d.length);rw[<-t]at S;have ny:m<=9223372036854775807:=by rw[t];exact D.1
  obtain⟨T,HM,g⟩:=ij D t C;obtain⟨u,U⟩:=dC (wr);subst U;clear D t C;go_wp2;go_loopw [15] (λq wr=>∃j:Nat,q=.int .i64 j/\j<=m/\Hid ((d.take j).all yF=true)/\Hid (Below u u wr)) (λq _=>m-(intOf q).toNat)
  case atStart=>exact⟨0,ii,oX,(by simp:(d.take 0).all yF=true),fp⟩
  obtain⟨j,rfl,hj,N,l⟩:=hrel;have s:Hid (Below w w wr):=k.out.trans (l.out.mono k.out.size);by_cases rT:j<m
  .obtain⟨o,E⟩:∃o,d[j]?=some o:=⟨_,fv co8⟩;obtain⟨b2,o2,x,F,rfl,e0,e1,e2,e3,e4,e5,O,_⟩:=(T.out.below l cG).2 j o E;have y:Hid (∀W,W.heap=(wr.alloc (iD o x F)).heap->gt 42 #[.agg #[I o.ai,I o.ch,I o.n,I o.v,.slice x o.cases F,B o.dG]] W λe X=>e=Value.bool (yF o)/\Below W W X):=λW Y=>D8 o x F W (O.fU λad v Q=>by rw[kZ (w:=wr) (by rw[Y];exact gf wr _ _ (ba0 _ _ Q))];exact Q)
   have R:=ag E;clear E O
   cases z:yF o with
   |true=>
    rw[z]at y;have G:Hid ((d.take (j+1)).all yF=true):=(by show _=_;rw[al6,R.out,List.all_append,N.out];simp[z]);go_wp2_with (go_at_call 42;refine(y _ ii).mono ?_;rintro e J ⟨rfl,f⟩;have K:Hid (Below u u J):=(l.out.alloc l.out.size _).trans (f.mono (by simp;have:=l.out.size;omega));clear f);go_roundw
    case rel=>exact⟨j+1,cj8,oX,G,K⟩
    case measure=>simp[intOf];omega
   |false=>
    rw[z]at y
    have L:Hid (im p=false):=by
     show _=_;rw[Ac,show p.all D9=false from ?_]
     .rfl
     rw[List.all_eq_false];refine⟨d,lf g,?_⟩;unfold D9;rw[show d.all yF=false from List.all_eq_false.2 ⟨o,lf R.out,by simp[z]⟩];simp
    go_wp2_with (go_at_call 42;refine(y _ ii).mono ?_;rintro e J ⟨rfl,f⟩;have K:Hid (Below w w J):=(s.out.alloc s.out.size _).trans (f.mono (by simp;have:=s.out.size;omega));clear f);go_ret;exact⟨by rw[L.out];rfl,K⟩
  obtain rfl:j=m:=oX
  have f:d.all yF=true:=by have:=N.out;rw[HM.out,aj3]at this;exact this
  by_cases z:j<=16
  .have G:Hid ((p.take (i+1)).all D9=true):=by
    show _=_;rw[al6,g.out,List.all_append,M.out];simp[D9,f,<-HM.out,z]
   have y:decide (16<(j:Int))=false:=ci8;clear f;go_wp2;go_roundw
   case rel=>exact⟨i+1,cj8,oX,G,s⟩
   simp[intOf];omega
  have L:Hid (im p=false):=by
   show _=_;rw[Ac,show p.all D9=false from ?_]
   .rfl
   rw[List.all_eq_false];refine⟨d,lf g,?_⟩;unfold D9;rw[<-HM.out];simp[z]
  have y:decide (16<(j:Int))=true:=ci8
  clear f;go_wp2;go_ret;exact⟨by rw[L.out];rfl,s⟩
 obtain rfl:i=n:=oX
 have d:Hid (im p=(decide (1<=i)&&decide (i<=8))):=by show _=_;have:=M.out;rw[HN.out,aj3]at this;rw[Ac,this,<-HN.out];simp
 by_cases f:1<=i
 .have y:decide ((1:Int)<=i)=true:=by simp;omega
  go_wp2;go_ret;refine⟨?_,k⟩;rw[d.out];simp[f];try omega
 have y:decide ((1:Int)<=i)=false:=ci8
 go_wp2;go_ret;refine⟨?_,k⟩;rw[d.out];simp[f]
variable{Pb:Nat->Prop}
theorem by3:XS 130 189 2:=⟨by kernel_rfl,by kernel_rfl⟩
section
variable{α:Type}{E:nR α}
theorem Own.rdB{e:TypeId}{wF:World}{c:List α}(h:Own E e Pb wF f u (A,n,z) c)(hF:aV2 Pb wF w')(d:∀(g:Nat),A=g->Pb g/\(g<u->w'.heap[g]?=u.heap[g]?)):ix E Pb w' A c:=by
 obtain⟨o,i,b,k,h2⟩:=h;refine⟨i,b,k.later hF,λp=>?_⟩;have a:=h2.2;rcases a with⟨_,a⟩|⟨g,cap,l,a,q,r⟩
 .grind
 cases a;obtain⟨m,s⟩:=d g ii;refine⟨g,0,ii,m,λj v hj=>?_⟩;have t:=bN2;grind [Addr.add_lit,Go.World.cell?_of_block]
theorem Own.ge{e:TypeId}{a:List α}(h:Own E e Pb v f u (p,n,z) a):f<=p/\p<u:=by
 obtain⟨_,_,_,_,h⟩:=h;rcases h.2 with⟨h,_⟩|⟨c,_,_,d,b,g,_⟩
 all_goals grind
theorem Own.ne{e t:TypeId}{a:List α}{b:Nat}{c:Nat×Nat}(h:Own E e Pb v f u (A,n,z) a)(k:u.heap[b]?=some (.cells us t c))(l:t≠e)(m:A=p):p≠b:=by
 obtain⟨o,q,d,r,g⟩:=h;rintro rfl;rcases g.2 with⟨i,_⟩|⟨s,cap,j,i,w,x,_⟩
 all_goals grind
theorem bs3{wF w0:World}{xs:List α}{o:Oper}{a:Act}{K:Act->World->Prop}{Q:Exit->Act->World->Prop}(s x:Operand)(t e:TypeId)(X:o.op=.call {callee:=.builtin .append,args:=#[s,x],argTypes:=#[t,t]})(T:XS t e E.n)(Y:0<E.n){cap:Nat}(Z:a.eval s=(n,z,cap))(hn:z=xs)(H:Own E e Pb wF w0 v (n,xs.length,cap) xs){b:Nat}{t2:TypeId}{fr:Nat×Nat}(hx:a.eval x=(b,1,p))(hb:v.heap[b]?=some (.cells us t2 fr)){y:α}(D:E.F Pb wF y us.toList)(hl:xs.length<1000000)(h:∀(f:Nat) r A,Own E e Pb wF w0 A (f,xs.length+1,r) (xs++[y])->(f=n\/f=v)->kL w0 A->(∀k,k<v.heap.size->k≠n->A.heap[k]?=v.heap[k]?)->v<=A.heap.size->K (a.put o.dst (.slice f (xs+1) r)) A):o.wp prog a v K Q:=by
 subst hn;obtain⟨i,c,G,R,g,w,h3⟩:=T.out;have I:=T.1;obtain⟨J,_,l,Dj,d⟩:=H;have fa:OC E Pb wF [y] [us.toList]:=⟨ii,λk x cs g w=>by cases k<;>simp at g w;subst g w;exact D⟩;have L:∀j u,us.toList[j]?=some u->v.cell? ((b:Addr).add j)=some u:=λj u hj=>by rw[aj9,wl,cr hb];simpa using hj
 have m:us.toList.length=1*E.n:=by rw[Nat.one_mul];exact E.len D
 have S:=E.one D;have B:(xs.length+1)*i.bytes<=140737488355328:=jm (at0 (show xs.length+1<=1000000 from hl) w) dX;obtain⟨v',U,hr,a1,M,_⟩:=run_append_own (P:=prog) v w0 t o.type e i c E.n i.bytes I G R g ii h3 Y (n,xs.length,cap) xs l.flatten d b 1 p us.toList m L S cj7 B J.size
 have hv:∃f r,v'=.slice (some ⟨f,0,none⟩) (xs.length+1) r/\(f=n\/f=v.heap.size):=by
  rcases d.2 with⟨h,_⟩|⟨g1,lK,N,e1,Ro,hg,JU,a0,O,Uw⟩
  .cases h
  cases e1;by_cases W:xs.length+1<=cap
  .have hq:=run_append_room (P:=prog) v t o.type e i I G n xs cap N hg b 1 p us.toList (by rw[g];exact m) L S W (by rw[g,m,O,<-Nat.add_mul];exact Nat.mul_le_mul_right _ W);grind
  have q:∀j u,l.flatten[j]?=some u->v.cell? ((n:Addr).add j)=some u:=d.cells (g:=n) ii;have hq:=run_append_grow (P:=prog) v t o.type e i c I G R n xs cap l.flatten (by rw[g];exact d.1) q b 1 p us.toList (by rw[g];exact m) L oX oX (growslice_fits oX B);grind
 obtain⟨f,r,rfl,Sb⟩:=hv;have C:kL w0 U:=Below.grown J M J.size λk hk=>(d.lt k hk).1
 unfold Oper.wp execOp;simp only[X,resolve,invoke,builtin,Sem.run_bind,Sem.run_pure,ak2,aw7,ae8,at5,Z,hx,hr];refine h f r U ⟨C,ci8,l++[us.toList],Dj.app fa,?_⟩ Sb C (λk g w=>M.block k g (λe=>w (by simp[Value.ownBlock]at e;exact e))) M.size;rw[aU7,ax9];simpa using a1
end
def aY9(a:List V.Pt)(s:Int):Nat->Nat
 |0=>0
 |j+1=>aY9 a s j+if(a[j]?.map (·.av))=s then 1 else 0
theorem aZ0(a:List V.Pt)(s:Int){i:Nat}:∀{j},i<=j->aY9 a s i<=aY9 a s j
 |0,h=>by
        obtain rfl:i=0:=oX
        exact rx _
 |j+1,h=>by
  by_cases e:i=j+1
  .grind
  have:=aZ0 a s (i:=i) (j:=j) oX;grind [aY9]
theorem bb5{a:List V.Pt}{s:Int}{x:V.Pt}(h:a[n]?=x)(b:x.av=s):aY9 a s (n+1)=aY9 a s n+1:=by
 grind [aY9]
section
variable{pts:List V.Pt}{k:Nat}{x:V.Pt}(hs:∀(i j:Nat) x y,i<j->pts[i]?=some x->pts[j]?=some y->x.av<=y.av)(hx:pts[k]?=x)
include hs hx
theorem bj4(o:aY9 pts x.av pts=2)(p:∀(j:Nat) y,j<k->pts[j]?=some y->y.av<x.av):(∃y,pts[k+1]?=some y/\y.av=x.av)/\∀(j:Nat) y,k+2<=j->pts[j]?=some y->x.av<y.av:=by
 have g:∀j,j<=k->aY9 pts x.av j=0:=λj=>by
  induction j with
  |zero=>intro _;rfl
  |succ j ih=>
   intro b;show aY9 pts x.av j+_=0;grind
 have c:aY9 pts x.av (k+1)=1:=by rw[bb5 hx ii,g k cG]
 have q:=bM1;have d:k+1<pts.length:=ww λh=>cp2
 obtain⟨y,a⟩:∃y,pts[k+1]?=some y:=⟨_,fv d⟩;have l:=hs k (k+1) x y oX hx a
 have f:y.av=x.av:=ww λr=>by
  have:∀j,k+1<=j->j<=pts.length->aY9 pts x.av j=1:=λj=>by
   induction j with
   |zero=>intro h;omega
   |succ j ih=>
    intro m n;by_cases e:k=j
    .subst e;exact c
    show aY9 pts x.av j+_=1;grind
  grind
 refine⟨⟨y,a,f⟩,λj z b hz=>?_⟩;have m:aY9 pts x.av (k+2)=2:=by rw[bb5 a f,c]
 have n:=hs k j x z oX hx hz;refine ww λd=>?_
 obtain⟨t,u⟩:=bL4;have v:=aZ0 pts x.av (i:=k+2) (j:=j) b;omega
theorem bs4(b:aY9 pts x.av pts<=1):∀(j:Nat) y,k+1<=j->pts[j]?=some y->x.av<y.av:=λj z a hz=>by
 have c:=hs k j x z oX hx hz;refine ww λd=>?_
 have e:=bb5 hx ii;obtain⟨f,g⟩:=bL4;have l:=aZ0 pts x.av (i:=k+1) (j:=j) a;omega