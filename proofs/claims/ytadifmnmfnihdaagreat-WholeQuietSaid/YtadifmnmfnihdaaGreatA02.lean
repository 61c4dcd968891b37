import Derived.Test.YtadifmnmfnihdaaGreatA00
set_option linter.all false
set_option maxRecDepth 100000
set_option maxHeartbeats 40000000
namespace Go.Proofs.YtadifmnmfnihdaaGreat
open Go.RowKit Mach Go.Proofs.Tryz
variable{v u f w' w2:World}{b n z p X cp:Nat}{G:Fx}{D:Mem}{E S':Wd}{e:bI}{Y:Int}{L:cu}
section
variable{P:Program}{o:Oper}{a:Act}{K:Act->World->Prop}{Q:Exit->Act->World->Prop}(s x:Operand)(t:TypeId)
include s x t
theorem be7(d:o.op=.call {callee:=.builtin .append,args:=#[s,x],argTypes:=#[t,t]}){e:TypeId}{i:TypeInfo}(f:P.underlying t=some (.slice e))(g:P.info? e=i)(j:a.eval s=())(b:am)(c:Nat)(k:a.eval x=(b,0,c))(h:K (a.put o.dst ()) v):o.wp P a v K Q:=by
 have l:(Builtin.append_ #[t,t] o.type #[(),(b,0,c)]).run P v=.ok () v:=by cases b<;>simp[Builtin.append_,aB6 f,sizeOf,typeInfo,g,Builtin.lenOf,Builtin.firstCells,loadCells,loadCellsFrom]
 unfold Oper.wp execOp;simp[d,resolve,invoke,builtin,ak2,aw7,ae8,at5,j,k,l];exact h
theorem EF(m:o.op=.call {callee:=.builtin .append,args:=#[s,x],argTypes:=#[t,t]}){e:TypeId}{i:TypeInfo}{z:Value}{size bytes:Nat}(B:P.underlying t=some (.slice e))(C:P.info? e=i)(D:i.zero=z)(d:i.size=size)(p:i.bytes=bytes)(q:z.cells.size=size)(r:0<size)(y:bytes<=200)(E:a.eval s=())(b off n c:Nat)(F:a.eval x=.slice (b,off) n c)(f:bi)(A:f=n*size)(G:∀(j:Nat) u,f[j]?=some u->v.cell? (b,off+j)=u)(H:∀u∈f,u.oneCell')(I:0<n)(M:n<1000001)(h:∀cap k,k.ownsRow v e size (v.heap.size,n,cap) n f->v.grownBy k none->K (a.put o.dst (.slice v n cap)) k):o.wp P a v K Q:=by
 refine wp_append_lies v s x t m v e i z size bytes B C D d p q r () 0 [] E (ai9 _ _ _ _) (b,off) n c f F A (λj u J=>by rw[aj9];exact G j u J) H I cj7 (by have:=at0 (show n<=1000001 by omega) y;rw[wl];omega) cG _ ii ?_;intro g cap k m L l A;obtain l|l:=l
 .cases l
 subst l;rw[wl];exact h cap k (by simpa using m) L
end
section
variable{P:Program}{ops:Array Oper}{rest:List Oper}{o:Oper}{a:Act}{Q:Exit->Act->World->Prop}(nX:o.guard=none)(s x:Operand)(t:TypeId)
include nX s x t
theorem gO(d:o.op=.call {callee:=.builtin .append,args:=#[s,x],argTypes:=#[t,t]}){e:TypeId}{i:TypeInfo}(f:P.underlying t=some (.slice e))(g:P.info? e=i)(j:a.eval s=())(b:am)(c:Nat)(k:a.eval x=(b,0,c))(h:wpList P ops Q rest (a.put o.dst ()) v):wpList P ops Q (o::rest) a v:=
 ae2 nX λ_ l=>be7 s x t d f g j b c k (l _ _ h)
theorem uM(q:o.op=.call {callee:=.builtin .append,args:=#[s,x],argTypes:=#[t,t]}){e:TypeId}{i:TypeInfo}{z:Value}{size bytes:Nat}(r:P.underlying t=some (.slice e))(y:P.info? e=i)(A:i.zero=z)(d:i.size=size)(k:i.bytes=bytes)(l:z.cells.size=size)(m:0<size)(p:bytes<=200)(B:a.eval s=())(b off n c:Nat)(C:a.eval x=.slice (b,off) n c)(f:bi)(D:f=n*size)(E:∀(j:Nat) u,f[j]?=some u->v.cell? (b,off+j)=u)(F:∀u∈f,u.oneCell')(G:0<n)(H:n<1000001)(h:∀cap g,g.ownsRow v e size (v.heap.size,n,cap) n f->v.grownBy g none->wpList P ops Q rest (a.put o.dst (.slice v n cap)) g):wpList P ops Q (o::rest) a v:=
 ae2 nX λ_ I=>EF s x t q r y A d k l m p B b off n c C f D E F G H λcap g J K=>I _ _ (h cap g J K)
end
theorem Sc(a b c d e f:Value)(w:World):(Instr.field 49 (.agg #[a,b,c,d,e,f]) 0).run prog w=.ok a w:=kX
theorem qA(a b c d e f:Value)(w:World):(Instr.field 49 (.agg #[a,b,c,d,e,f]) 1).run prog w=.ok b w:=kX
def dm(H:Nat)(w:World)(v:Value)(b:List Case):Prop:=
 b=[]/\v=()\/
 ∃a cap:Nat,b≠[]/\v=(a,b.length,cap)/\H<=a/\a<w/\
  ∀(j:Nat) c,b[j]?=some c->w.cell? (a,j*3)=B c.cF/\w.cell? (a,j*3+1)=I c.ch/\w.cell? (a,j*3+2)=I c.v
section
variable{m0 m':Mem}
theorem dm.below{v:Value}{i:List Case}(h:dm n u v i)(k:Below u u w'):dm n w' v i:=by
 obtain h|⟨a,cap,l,o,p,q,d⟩:=h
 .exact .inl h
 have e:∀j v,u.cell? ⟨a,j,none⟩=some v->w'.cell? ⟨a,j,none⟩=some v:=λj v r=>by grind [Below.cell]
 exact .inr ⟨a,cap,l,o,p,uB q k.size,λj c g=>⟨e _ _ (d j c g).1,e _ _ (d j c g).2.1,e _ _ (d j c g).2.2⟩⟩
end
theorem Oc:(prog.info? 52).map (λi=>(i.zero,i.size,i.bytes))=some (some (.agg #[.bool false,.int .i64 0,.int .i64 0]),3,24):=kX
def VP(c:Nat)(F:Fx)(m:Mem)(w:World)(S:Wd)(o:cu)(e:Ending)(a:World):Prop:=
 ∃b,e=Value.agg #[o.ai,o.ch,o.n,o.v,b,o.dG]/\At c F m w m a S/\dm w a b o.cases
section
variable{w:World}{m0:Mem}
theorem nu{α:Type}{f:Nat->α->bi}{k:Nat}(c:∀b x,(f b x).length=k)(d:0<k){l:List α}(h:bT f b l=[]):l=[]:=by
 have a:=aV9 c l b;rw[h]at a;obtain h2|h2:=ay6 l.length
 .grind
 have:=Nat.mul_pos h2 d;simp at a;omega
theorem bz.ops(R:bz n G w D E){g:Nat}{x:bI}(hx:E.gs[g]?=x){j:Nat}{o:cu}(b:x.ops[j]?=o):∃a:Nat,D.aV (.ops g)=a/\D.cU (.ops g) x.ops=(a,x.ops.length,D.cap (.ops g))/\∀(q:Nat) v,(Cu D g j o)[q]?=some v->w.cell? (a,j*6+q)=v:=by
 have d:aj D E (.ops g)=bT (Cu D g) 0 x.ops:=cq1
 have i:aj D E (.ops g)≠[]:=by rw[d];intro h;rw[nu (f:=Cu D g) (k:=6) (λ_ _=>rfl) dX h]at b;simp at b
 let⟨a,c⟩:=R.has i;refine⟨a,c,Mem.de c,λq v e=>?_⟩;have h:=fq (f:=Cu D g) (k:=6) (λ_ _=>rfl) x.ops 0 j q o b (um e);rw[wl,e]at h;exact R.cell c (by rw[d];exact h)
theorem bz.cases(R:bz n G w D E){g:Nat}{x:bI}(p:E.gs[g]?=x){j:Nat}{o:cu}(q:x.ops[j]?=o):∃a c,D.cU (.cases g j) o.cases=.slice a o.cases c/\(o.cases≠[]->∃d:Nat,a=d/\d<w/\∀(k:Nat) v,(bT fT 0 o.cases)[k]?=some v->w.cell? (d,0+k)=v):=by
 have l:aj D E (.cases g j)=bT fT 0 o.cases:=by simp[aj,p,q]
 by_cases e:o.cases=[]
 .cases i:D.aV (.cases g j) with
  |none=>exact⟨none,0,by rw[Mem.j6 i,e];rfl,λh=>aX e h⟩
  |some b=>exact⟨_,_,Mem.de i,λh=>aX e h⟩
 have r:aj D E (.cases g j)≠[]:=by rw[l];exact λh=>e (nu (f:=fT) (k:=3) (λ_ _=>rfl) dX h)
 let⟨d,i⟩:=R.has r;exact⟨_,_,Mem.de i,λ_=>⟨d,ii,R.lt i,λk v s=>by rw[wl];exact R.cell i (by rw[l];exact s)⟩⟩
theorem vU:∀(b:List Case) (i:Nat),∀a∈bT fT i b,a.oneCell'
 | [],_,_,h=>by simp[bT]at h
 |c::b,i,a,h=>by
  simp[bT,fT,al0]at h;obtain rfl|rfl|rfl|h:=h
  .rfl
  .rfl
  .rfl
  exact vU b (i+1) a h
theorem mE(R:bz n G w D E)(d:E.gs[b]?=e):∃a c,D.cU (.ops b) e.ops=.slice a e.ops c:=
 R.shape (by simp only[aj,d];intro h;rw[nu (f:=Cu D b) (k:=6) (λ_ _=>rfl) dX h];rfl)
theorem St(R:bz n G w D E)(g:Nat)(x:bI)(hx:E.gs[g]?=x)(H:(dH E g).cases.length<=1000):gt 92 #[bR G,I g] w (VP n G D w E (dH E g)):=by
 obtain⟨eM,c3,HR⟩:=bK6;have O:=R.g0 hx;have U:=bM5;let⟨aU,Gu,aY,aZ⟩:=R.pB;let⟨i0,hi,fV,jC,gG⟩:=AC Oc;unfold dH at H ⊢;simp only[hx,eN]at H ⊢;by_cases s:0<=x.at_/\x.at_<x.ops.length
 .let⟨j,Q⟩:∃j:Nat,x.at_=j:=⟨x.at_.toNat,oX⟩;have vy:j<x.ops.length:=by omega
  let⟨o,L⟩:∃o,x.ops[j]?=some o:=⟨_,fv vy⟩;rw[Q,eR,L,av1]at H ⊢;let⟨ob,W,J,t⟩:=R.ops hx L;let⟨ca,z,X,Y⟩:=R.cases hx L;have o0:w.cell? ⟨ob,j*6,none⟩=_:=t 0 _ ii;have o1:=t 1 _ ii;have o2:=t 2 _ ii;have o3:=t 3 _ ii;have Z:=t 4 _ ii;have o5:=t 5 _ ii;rw[X]at Z;rw[J]at O;rw[Q]at U;have a5:=R.lt W;have Ut:decide ((j:Int)<0)=false:=sX
  have a0:decide ((x.ops.length:Int)<=(j:Int))=false:=ci8
  have a6:decide (x.ops.length<=j)=false:=ci8
  obtain⟨a,r⟩:=bN3;rw[<-r]at Z;have HN:=ag r;by_cases A:o.cases=[]
  .have vN:a=0:=by rw[r,A];rfl
   subst vN;have H0:=ag A;clear R hx Q s L W J t X Y r H A;unfold bR;go_enter func92,ntmps92;go_wp2;go_quiet (fail);go_wp2;go_region;go_wp2_with (at_builtin;refine gO ii (.const (.slice none 0 0)) (.tmp 54) 47 rfl underlying47 hi ii ca z ii ?_);refine UV (v:=.agg #[I o.ai,I o.ch,I o.n,I o.v,.slice none 0 0,B o.dG]) ?_ rfl ?_
   .simp[results,Tryz.results92,go_sem]
   have hB:Below w.heap.size w ((((((((w.alloc (.cells #[.int .i64 0,.int .i64 0,.int .i64 0,.int .i64 0,.slice none 0 0,.bool false] 49)).drewN (nq+1)).setCell ⟨w.heap.size,0,none⟩ (I o.ai)).setCell ⟨w.heap.size,1,none⟩ (I o.ch)).setCell ⟨w.heap.size,2,none⟩ (I o.n)).setCell ⟨w.heap.size,3,none⟩ (I o.v)).setCell ⟨w.heap.size,4,none⟩ (.slice none 0 0)).setCell ⟨w.heap.size,5,none⟩ (B o.dG)):=
    (((((((below_drewN ((fp).alloc cG _) _).setCell cG _).setCell cG _).setCell cG _).setCell cG _).setCell cG _).setCell cG _)
   exact⟨_,ii,HR.out.heap (hB.alloc hB.size _),.inl ⟨H0,ii⟩⟩
  have vN:0<a:=by rw[r];exact pd A
  obtain⟨y,rfl,EX,fa⟩:=Y A;have BJ:=ag fa;have H0:=ag A;have xS:a<1000001:=oX
  have cR:(bT fT 0 o.cases).length=a*3:=by rw[aV9 (f:=fT) (k:=3) (λ_ _=>rfl),r]
  have tP:=ag cR;clear R hx Q s L W J t X Y r H A fa cR;unfold bR;go_enter func92,ntmps92;go_wp2;go_quiet (fail);go_wp2;go_region;generalize M:((w.alloc (.cells #[.int .i64 0,.int .i64 0,.int .i64 0,.int .i64 0,.slice none 0 0,.bool false] 49)).drewN (nq+1)).alloc (.cells #[.int .i64 o.ai,.int .i64 o.ch,.int .i64 o.n,.int .i64 o.v,.slice (some ⟨y,0,none⟩) a z,.bool o.dG] 49)=K;have e:K.heap[w.heap.size]?=some (.cells #[.int .i64 0,.int .i64 0,.int .i64 0,.int .i64 0,.slice none 0 0,.bool false] 49 (0,0)):=by rw[<-M,gf _ _ _ sX];exact ag7 w _
  have i:K.heap[w.heap.size+1]?=some (.cells #[.int .i64 o.ai,.int .i64 o.ch,.int .i64 o.n,.int .i64 o.v,.slice (some ⟨y,0,none⟩) a z,.bool o.dG] 49 (0,0)):=by rw[<-M];have:=ag7 ((w.alloc (.cells #[.int .i64 0,.int .i64 0,.int .i64 0,.int .i64 0,.slice none 0 0,.bool false] 49)).drewN (nq+1)) (.cells #[.int .i64 o.ai,.int .i64 o.ch,.int .i64 o.n,.int .i64 o.v,.slice (some ⟨y,0,none⟩) a z,.bool o.dG] 49);simpa using this
  have a1:K.heap.size=w.heap.size+2:=by rw[<-M];simp
  have C:Below w.heap.size w K:=by rw[<-M];have h1:=below_drewN ((ae5 w.heap.size w).alloc cG (.cells #[.int .i64 0,.int .i64 0,.int .i64 0,.int .i64 0,.slice none 0 0,.bool false] 49)) (nq+1);exact h1.alloc h1.size _
  have mq:=ag C;have YY:∀j b,(bT fT 0 o.cases)[j]?=some b->K.cell? ⟨y,0+j,none⟩=some b:=λj b h=>by rw[C.cell (p:=⟨y,0+j,none⟩) EX];exact BJ j b h
  have a2:=ag YY;have a3:K.cell? ⟨w.heap.size+1,4,none⟩=some (.slice (some ⟨y,0,none⟩) a z):=(cr i).trans rfl;have BK:=ag e;have pH:=ag i;clear M C YY e i c3 O U o0 o1 o2 o3 Z o5;go_wp2_with (at_builtin;go_loud (refine uM ii (.const (.slice none 0 0)) (.tmp 54) 47 rfl underlying47 hi fV jC gG ii (Nat.succ_pos 2) dX ii y 0 a z ii (bT fT 0 o.cases) tP a2 (vU _ _) vN xS ?_;intro cap d l N;have Vu:=N.size;rw[a1]at l Vu;have e:d.heap[w.heap.size]?=_:=(N.block _ oX sX).trans BK;have i:d.heap[w.heap.size+1]?=_:=(N.block _ oX sX).trans pH;have yJ:Below w.heap.size w d:=mq.out.grown N mq.out.size cm0;let⟨tK,nv⟩:=dA yJ l;have a7:d.frozen? ⟨w.heap.size+1,4,none⟩=false:=iM _ _ _ i;have l0:d.cell? ⟨w.heap.size+1,0,none⟩=some (I o.ai):=(cr i).trans rfl;have l1:d.cell? ⟨w.heap.size+1,1,none⟩=some (I o.ch):=(cr i).trans rfl;have l2:d.cell? ⟨w.heap.size+1,2,none⟩=some (I o.n):=(cr i).trans rfl;have l3:d.cell? ⟨w.heap.size+1,3,none⟩=some (I o.v):=(cr i).trans rfl;have l4:d.cell? ⟨w.heap.size+1,4,none⟩=some (.slice (some ⟨y,0,none⟩) a z):=(cr i).trans rfl;have l5:d.cell? ⟨w.heap.size+1,5,none⟩=some (B o.dG):=(cr i).trans rfl;have r0:d.cell? ⟨w.heap.size,0,none⟩=some (I 0):=(cr e).trans rfl;have f0:d.frozen? ⟨w.heap.size,0,none⟩=false:=iM _ _ _ e;have r1:d.cell? ⟨w.heap.size,1,none⟩=some (I 0):=(cr e).trans rfl;have f1:d.frozen? ⟨w.heap.size,1,none⟩=false:=iM _ _ _ e;have r2:d.cell? ⟨w.heap.size,2,none⟩=some (I 0):=(cr e).trans rfl;have f2:d.frozen? ⟨w.heap.size,2,none⟩=false:=iM _ _ _ e;have r3:d.cell? ⟨w.heap.size,3,none⟩=some (I 0):=(cr e).trans rfl;have f3:d.frozen? ⟨w.heap.size,3,none⟩=false:=iM _ _ _ e;have r4:d.cell? ⟨w.heap.size,4,none⟩=some (.slice none 0 0):=(cr e).trans rfl;have f4:d.frozen? ⟨w.heap.size,4,none⟩=false:=iM _ _ _ e;have r5:d.cell? ⟨w.heap.size,5,none⟩=some (B false):=(cr e).trans rfl;have f5:d.frozen? ⟨w.heap.size,5,none⟩=false:=iM _ _ _ e;clear e i l N yJ a3));refine UV (v:=.agg #[I o.ai,I o.ch,I o.n,I o.v,.slice (some ⟨w.heap.size+2,0,none⟩) a cap,B o.dG]) ?_ rfl ?_
  .simp[results,Tryz.results92,go_sem,r0,r1,r2,r3,r4,r5]
  have h7:=((((((tK.out.setCell (p:=(w.heap.size+1,4)) (aj5 _) (w.heap.size+2,a,cap)).setCell (p:=w.heap.size) cG (I o.ai)).setCell (p:=(w.heap.size,1)) cG (I o.ch)).setCell (p:=(w.heap.size,2)) cG (I o.n)).setCell (p:=(w.heap.size,3)) cG (I o.v)).setCell (p:=(w.heap.size,4)) cG (w.heap.size+2,a,cap)).setCell (p:=(w.heap.size,5)) cG (B o.dG);have dD:=((nv.out.lt) (w.heap.size+2) ii).2;refine⟨_,ii,HR.out.heap h7,.inr ⟨w.heap.size+2,cap,H0,by rw[<-HN.out],oX,by simpa[World.setCell]using dD,λjj c a4=>?_⟩⟩;have j8:∀q v,(bT fT 0 o.cases)[q]?=some v->(((((((d.setCell (w.heap.size+1,4) (w.heap.size+2,a,cap)).setCell w.heap.size (I o.ai)).setCell (w.heap.size,1) (I o.ch)).setCell (w.heap.size,2) (I o.n)).setCell (w.heap.size,3) (I o.v)).setCell (w.heap.size,4) (w.heap.size+2,a,cap)).setCell (w.heap.size,5) (B o.dG)).cell? ⟨w.heap.size+2,q,none⟩=some v:=by intro q v T;rw[aj4 _ _ _ _ sX,aj4 _ _ _ _ sX,aj4 _ _ _ _ sX,aj4 _ _ _ _ sX,aj4 _ _ _ _ sX,aj4 _ _ _ _ sX,aj4 _ _ _ _ sX];have Su:q<a*3:=(by rw[<-tP.out];exact(um T));rw[nv.out.cellAt q Su];exact T
  have hg:=λq T=>fq (f:=fT) (k:=3) (λ_ _=>rfl) o.cases 0 jj q c a4 T
  exact⟨j8 _ _ (hg 0 oX),j8 _ _ (hg 1 oX),j8 _ _ (hg 2 oX)⟩
 rw[iN s];simp only[Option.getD_none];let⟨d,e,J⟩:=mE R hx;rw[J]at O;have h1:x.at_<0\/(0<=x.at_/\(x.ops.length:Int)<=x.at_):=oX
 obtain⟨a,r⟩:=bN9;let⟨k,hk⟩:=dC (x.at_);rw[<-r]at O h1;rw[<-hk]at U h1;clear R hx s J r hk H;unfold bR;go_enter func92,ntmps92;obtain h1|⟨b,h1⟩:=h1
 .have Ut:decide (k<0)=true:=by simpa using h1
  exact bZ7
 have Ut:decide (k<0)=false:=by simpa using b
 have a0:decide ((a:Int)<=k)=true:=cm9
 exact bZ7
end
def VM(B g c n m d:Nat)(f:ce)(w:World)(e:Ending)(a:World):Prop:=
 e=Value.tuple #[]/\∃b:ce,yt m f b/\iP b m d/\a.ownsRow B 3 1 (g,n,c) n (b.map (Value.int .i64))/\w.grownBy a g/\a=w.heap.size
structure qD(B g c n m lo:Nat)(zs:ce)(w:World)(k:Nat)(zk:ce)(wr:World):Prop where
 bm7:yt m zs zk
 hole:vF zk m lo k
 own:wr.ownsRow B 3 1 (g,n,c) n (zk.map (Value.int .i64))
 grown:w.grownBy wr g
 size:wr=w.heap.size
theorem wV{r:Option Nat}(h:u.grownBy v r)(k:v.grownBy f r):u.grownBy f r:=
 ⟨k.os.trans h.os,k.tape.trans h.tape,k.output.trans h.output,jm h.size k.size,λi b a=>(k.block i (by have:=h.size;omega) a).trans (h.block i b a)⟩
theorem rW{B:Nat}{a:ce}(h:v.ownsRow B 3 1 (b,z,n) z (a.map (Value.int .i64)))(j:Nat)(c:j<z):v.cell? (b,j)=some (.int .i64 (a.getD j 0)):=by
 rw[h.cellAt j oX];simp[List.getD,by have:=h.1;simpa using this,c]
theorem qD.drewN{B g c n m a k:Nat}{b d:ce}{w wr:World}(h:qD B g c n m a b w k d wr)(q:Nat):qD B g c n m a b w k d (wr.drewN q):=
 ⟨h.bm7,h.hole,h.own,⟨h.grown.os,h.grown.tape,h.grown.output,h.grown.size,h.grown.block⟩,h.size⟩
theorem vR{B d:Nat}{g a:ce}{wr:World}(h:qD B b n z p X g v cp a wr)(r:g=z)(j:p<=z)(k:d=2*cp+1\/d=2*cp+2)(c:d<p)(l:X<=cp)(m:a.getD cp 0<=a.getD d 0)(o:∀f,f<p->(f=2*cp+1\/f=2*cp+2)->a.getD f 0<=a.getD d 0)(q:Nat):qD B b n z p X g v d (iO a cp d) (((wr.setCell (b,cp) (.int .i64 (a.getD d 0))).setCell (b,d) (.int .i64 (a.getD cp 0))).drewN q):=by
 have:=h.bm7.len;have i:=(h.own.stored cp (.int .i64 (a.getD d 0)));have e:=(i.1.stored d (.int .i64 (a.getD cp 0)));refine⟨h.bm7.trans (.swap oX c oX),bp0 h.hole oX k c l m o,uJ h.own ii ii,wV h.grown (wV i.2 ⟨e.2.os,e.2.tape,e.2.output,e.2.size,e.2.block⟩),?_⟩;rw[<-h.size];simp[World.setCell]
theorem EN(B g c n m l N:Nat)(o:ce)(w:World)(p:m<=n)(S:n<=1000)(O:l<=m)(Q:o=n)(R:iP o m (l+1))(t:w.ownsRow B 3 1 (g,n,c) n (o.map (Value.int .i64))):gt 220 #[(g,m,N),.int .i64 l] w (VM B g c n m l o w):=by
 have b:qD B g c n m l o w l o w:=⟨.refl _ _,Hh R,t,World.grownBy.refl _ _,ii⟩;have D:=ag b;have r:=ag Q;go_enter func220,ntmps220;go_wp2;go_loopw [1,4] (λa _ wr=>∃(k:Nat) (f:ce),l<=k/\k<=m/\a=.int .i64 k/\Hid (qD B g c n m l o w k f wr)) (λa _ _=>m-(intOf a).toNat)
 case atStart=>exact⟨l,o,rx _,O,ii,D⟩
 obtain⟨k,f,T,U,rfl,b⟩:=hrel;by_cases c1:2*k+1<m
 .have:2*(k:Int)+1<(m:Int):=by omega
  have:(0:Int)<=2*(k:Int)+1:=oX
  have:(0:Int)<=2*(k:Int)+1+1:=oX
  have:(2*(k:Int)+1).toNat=2*k+1:=oX
  have:(2*(k:Int)+1+1).toNat=2*k+2:=oX
  let⟨x,i⟩:=named (f.getD k 0);let⟨y,j⟩:=named (f.getD (2*k+1) 0);have C:=rW b.out.own k oX;have E:=rW b.out.own (2*k+1) oX;rw[<-i.out]at C;rw[<-j.out]at E;have F:=b.out.own.frozenAt k;have G:=b.out.own.frozenAt (2*k+1);by_cases c2:2*k+2<m
  .have t2:2*(k:Int)+1+1<(m:Int):=by omega
   let⟨z,s⟩:=named (f.getD (2*k+2) 0);have H:=rW b.out.own (2*k+2) oX;rw[<-s.out]at H;by_cases d2:y<z
   .by_cases d3:z<=x
    .go_wp2_with fail
     go_quiet (fail);go_wp2_with fail
     go_quiet (fail);go_wp2;exact UV (v:=.tuple #[]) (ad8 ii _ _ _) ii ⟨ii,f,b.out.bm7,vG b.out.hole (by rw[<-j.out,<-i.out];omega) (λ_=>by rw[<-s.out,<-i.out];exact d3),((b.out.drewN _).drewN _).own,((b.out.drewN _).drewN _).grown,((b.out.drewN _).drewN _).size⟩
    go_wp2_with fail
    go_quiet (fail);go_wp2_with fail
    go_quiet (fail);go_wp2_with fail
    generalize d:wr.drewN _=e;have I:e.cell? (g,k)=some (.int .i64 x):=(by rw[<-d];exact C);have J:e.cell? (g,2*k+2)=some (.int .i64 z):=(by rw[<-d];exact H);have K:e.frozen? (g,k)=false:=(by rw[<-d];exact F);have L:e.frozen? (g,2*k+2)=false:=(by rw[<-d];exact (b.out.own.frozenAt (2*k+2)));go_region;go_wp2;go_roundw
    case rel=>
     let⟨q,u⟩:∃q,e=wr.drewN q:=⟨_,d.symm⟩;refine⟨2*k+2,iO f k (2*k+2),oX,oX,cj8,?_⟩;rw[u,i.out,s.out]
     exact vR ((b.out.drewN q).drewN _) r.out p (.inr rfl) oX oX (by rw[<-i.out,<-s.out];omega) (by
      intro M A h;obtain rfl|rfl:=h
      .rw[<-j.out,<-s.out];omega
      exact ae1 _) 0
    simp[intOf];omega
   by_cases d3:y<=x
   .go_wp2_with fail
    go_quiet (fail);go_wp2_with fail
    go_quiet (fail);go_wp2;exact UV (v:=.tuple #[]) (ad8 ii _ _ _) ii ⟨ii,f,b.out.bm7,vG b.out.hole (by rw[<-j.out,<-i.out];exact d3) (λ_=>by rw[<-s.out,<-i.out];omega),((b.out.drewN _).drewN _).own,((b.out.drewN _).drewN _).grown,((b.out.drewN _).drewN _).size⟩
   go_wp2_with fail
   go_quiet (fail);go_wp2_with fail
   go_quiet (fail);go_wp2_with fail
   generalize d:wr.drewN _=e;have I:e.cell? (g,k)=some (.int .i64 x):=(by rw[<-d];exact C);have J:e.cell? (g,2*k+1)=some (.int .i64 y):=(by rw[<-d];exact E);have K:e.frozen? (g,k)=false:=(by rw[<-d];exact F);have L:e.frozen? (g,2*k+1)=false:=(by rw[<-d];exact G);go_region;go_wp2;go_roundw
   case rel=>
    let⟨q,u⟩:∃q,e=wr.drewN q:=⟨_,d.symm⟩;refine⟨2*k+1,iO f k (2*k+1),oX,oX,cj8,?_⟩;rw[u,i.out,j.out]
    exact vR ((b.out.drewN q).drewN _) r.out p (.inl rfl) oX oX (by rw[<-i.out,<-j.out];omega) (by
     intro M A h;obtain rfl|rfl:=h
     .exact ae1 _
     rw[<-s.out,<-j.out];omega) 0
   simp[intOf];omega
  have t2:decide (2*(k:Int)+1+1<(m:Int))=false:=ci8
  by_cases d3:y<=x
  .go_wp2_with fail
   go_quiet (fail);go_wp2_with fail
   go_quiet (fail);go_wp2;exact UV (v:=.tuple #[]) (ad8 ii _ _ _) ii ⟨ii,f,b.out.bm7,vG b.out.hole (by rw[<-j.out,<-i.out];exact d3) (λh=>oX),((b.out.drewN _).drewN _).own,((b.out.drewN _).drewN _).grown,((b.out.drewN _).drewN _).size⟩
  go_wp2_with fail
  go_quiet (fail);go_wp2_with fail
  go_quiet (fail);go_wp2_with fail
  generalize d:wr.drewN _=e;have I:e.cell? (g,k)=some (.int .i64 x):=by rw[<-d];exact C
  have J:e.cell? (g,2*k+1)=some (.int .i64 y):=by rw[<-d];exact E
  have K:e.frozen? (g,k)=false:=by rw[<-d];exact F
  have L:e.frozen? (g,2*k+1)=false:=by rw[<-d];exact G
  go_region;go_wp2;go_roundw
  case rel=>
   let⟨q,u⟩:∃q,e=wr.drewN q:=⟨_,d.symm⟩;refine⟨2*k+1,iO f k (2*k+1),oX,oX,cj8,?_⟩;rw[u,i.out,j.out]
   exact vR ((b.out.drewN q).drewN _) r.out p (.inl rfl) oX oX (by rw[<-i.out,<-j.out];omega) (by
    intro M A h;obtain rfl|rfl:=h
    .exact ae1 _
    omega) 0
  simp[intOf];omega
 go_wp2;exact UV (v:=.tuple #[]) (ad8 ii _ _ _) ii ⟨ii,f,b.out.bm7,bo9 b.out.hole oX,b.out.own,b.out.grown,b.out.size⟩
def yH(l:ce):ce:=l.mergeSort (λa b=>decide (a<=b))
theorem yI(l:ce):(yH l).Perm l:=List.mergeSort_perm _ _
theorem bi3(l:ce):(yH l).Pairwise (· <=·):=by
 have h:=List.pairwise_mergeSort (le:=λa b:Int=>decide (a<=b)) (by simp at*;omega) ci8 l;exact h.imp λh=>ck0
theorem EO{l a:ce}(b:a.Perm l)(c:a.Pairwise (· <=·)):a=yH l:=Aw c (bi3 l) (b.trans (yI l).symm)
theorem lI(l:ce):(yH l).length=l:=(yI l).length_eq
theorem rX{B:Nat}{xs:bi}(h:v.ownsRow B b 1 (n,z,z) z xs):v.heap[n]?=some (.cells xs.toArray b (0,0)):=by
 exact cb8
structure S1(B n:Nat)(zs:ce)(w:World)(t:Nat)(wr:World):Prop where
 ex:∃zk:ce,zk=n/\zk.Perm zs/\iP zk n t/\wr.ownsRow B 3 1 (B,n,n) n (zk.map (Value.int .i64))
 below:Below B w wr
structure S2(B n:Nat)(zs:ce)(w:World)(e:Int)(wr:World):Prop where
 ex:∃zk:ce,zk=n/\zk.Perm zs/\(0<=e->Phase zk (e.toNat+1))/\wr.ownsRow B 3 1 (B,n,n) n (zk.map (Value.int .i64))
 below:Below B w wr
theorem rY{B:Nat}(h:Below B v u)(a:u.grownBy f B)(b:B<=u):Below B v f:=
 h.grown a b (by intro k c;simp at c;omega)
theorem bt0(d:ce)(n:Nat)(U:n=d)(a:am)(c:Nat)(w:World)(h:Rd .i64 w a d)(W:n<=1000):gt 216 #[(a,n,c)] w (vH w (yH d)):=by
 let⟨A,hi,fV,jC,gG⟩:=AC lC;have D:=ag U;clear U;go_enter func216,ntmps216;go_wp2_with (at_make;go_loud (refine bH5 _ ii _ _ 28 rfl w 3 A (.int .i64 0) 1 underlying28 hi fV jC _ _ _ _ n ii ii ii ii cl1 cj7 cG ?_));intro w1 l X;have Y:Below w w w1:=(fp).grown X cG cm0;rw[ay0]at l;have AA:=ag (rX l);let⟨H,Z⟩:=dC (d.map (Value.int .i64));have I:=ag Z;have cP:H.length=n:=by rw[I.out,ko,D.out]
 have g:=ag cP;clear l X Z cP;go_wp2_with (with_reducible refine wpList_copy_splice ii (.tmp 9) (.tmp 10) 28 28 rfl 3 underlying28 kX _ _ _ _ _ _ ii ii w 0 (List.replicate n (.int .i64 0)) 3 AA.out H ?c1 ?c2 ?c3 ?c4 w w Y cG ?_)
 case c1=>simp[g.out]
 case c2=>
  intro E;rw[g.out,D.out]at E;obtain⟨b,off,rfl,m⟩:=((ag h).out.below Y cG).2 E;refine⟨_,ii,λj v o=>?_⟩;rw[I.out,na]at o
  have f:j<d.length:=by
   obtain h|h:=aj8 j d.length
   .exact h
   rw[rq h]at o;cases o
  rw[fv f]at o;rw[aj9,m j f];simp at o;rw[<-o];simp[List.getD,f]
 case c3=>simp[g.out]
 case c4=>
  intro v o;rw[I.out]at o;exact bI4 _ _ v o
 intro w2 HG K;have hG:=HG.out;have e1:splice (List.replicate n (Value.int .i64 0)) 0 H=H:=by simp[splice,g.out]
 rw[e1]at hG
 have fu:w2.ownsRow w 3 1 (w.heap.size,n,n) n (d.map (Value.int .i64)):=
  ⟨by simp[D.out],.inr ⟨_,n,_,ii,rx _,hG,rx _,cj7,by simp[g.out],by rw[<-I.out];exact yl (by simp[g.out])⟩⟩
 have J:Hid (S1 w n d w (n / 2) w2):=⟨⟨d,D.out.symm,.refl _,La _ _ _ oX,fu⟩,K⟩;go_wp2;go_loopw [4] (λi wr=>∃(A:Int) (t:Nat),i=.int .i64 A/\A+1=t/\t<=n/\Hid (S1 w n d w t wr)) (λi _=>(intOf i+1).toNat)
 case atStart=>exact⟨_,n / 2,ii,oX,oX,J⟩
 obtain⟨A,t,rfl,L,a0,J⟩:=hrel;have:=ag L;by_cases F:0<=A
 .obtain⟨s,rfl⟩:=pz F;obtain rfl:t=s+1:=by omega
  go_wp2_with fail
  let⟨⟨f,q,r,u,m⟩,B⟩:=J.out;refine(EN w w n n n s n f _ cG W oX q u m).mono ?_;rintro e M ⟨rfl,N,C,O,Q,R,S⟩;have z:Hid (S1 w n d w s M):=⟨⟨N,C.len.trans q,C.perm.trans r,O,Q⟩,rY B R B.size⟩;go_wp2;go_roundw
  case rel=>exact⟨_,s,ii,oX,oX,z⟩
  simp[intOf]
 obtain rfl:t=0:=oX
 have G:Hid (S2 w n d w ((n:Int)-1) wr):=by let⟨⟨f,q,r,u,m⟩,B⟩:=J.out;refine⟨⟨f,q,r,λE=>?_,m⟩,B⟩;rw[show((n:Int)-1).toNat+1=f.length by omega];exact ED (by rw[q];exact u)
 go_wp2;go_loopw [5] (λi wr=>∃(p:Int),i=.int .i64 p/\ -1<=p/\p<n/\Hid (p<0->n<=1)/\Hid (S2 w n d w p wr)) (λi _=>(intOf i).toNat)
 case atStart=>exact⟨_,ii,oX,oX,(λh=>by omega:(n:Int)-1<0->n<=1),G⟩
 obtain⟨p,rfl,ja,a1,HE,G⟩:=hrel;by_cases nT:0<p
 .obtain⟨s,rfl⟩:=pz (by omega:0<=p);let⟨f,q,r,u,m⟩:=G.out.ex;have T:Phase f (s+1):=u oX;let⟨x,hx⟩:=named (f.getD 0 0);let⟨y,hy⟩:=named (f.getD s 0);have cx:=rW m 0 oX;have cy:=rW m s oX;rw[<-hx.out]at cx;rw[<-hy.out]at cy;have:=m.frozenAt 0;have:=m.frozenAt s;have Sq:Hid (f.length=n/\f.Perm d/\Phase f (s+1)):=⟨q,r,T⟩;go_wp2;go_region;have UE:=uJ (ag m).out (i:=0) (j:=s) hx.out hy.out;have K:Below w w ((wr.setCell w (.int .i64 y)).setCell (w.heap.size,s) (.int .i64 x)):=tG G.out.below cG;have mq:=ag K;have Ru:=EN w w n n s 0 n (iO f 0 s) (((wr.setCell w (.int .i64 y)).setCell (w.heap.size,s) (.int .i64 x)).drew) oX W oX (by rw[aX2,Sq.out.1]) (yu Sq.out.2.2 cv3 oX).1 UE;go_wp2_with fail
  refine (ag Ru).out.mono ?_;rintro e M ⟨rfl,N,C,O,Q,R,S⟩
  have z:Hid (S2 w n d w ((s:Int)-1) M):=by
   refine⟨⟨N,?_,?_,λ_=>?_,Q⟩,rY mq.out.drew R mq.out.size⟩
   .rw[C.len,aX2,Sq.out.1]
   .exact(C.perm.trans (tF _ _ _ cv3 cv3)).trans Sq.out.2.1
   rw[show((s:Int)-1).toNat+1=s by omega];exact Hi Sq.out.2.2 cv3 oX C O
  go_wp2;go_roundw
  case rel=>exact⟨_,ii,oX,oX,(λh=>by omega:(s:Int)-1<0->n<=1),z⟩
  simp[intOf];omega
 go_wp2;go_ret;let⟨⟨f,q,r,u,m⟩,B⟩:=G.out
 have T:f.Pairwise (· <=·):=by
  by_cases E:p=0
  .subst E;exact Cx (u oX)
  have:=HE.out oX;exact Cy oX
 have hz:=EO r T;subst hz;exact⟨_,ii,by unfold yv;rw[lI,<-D.out];exact m,B⟩
section
variable{af:Nat}{F:Fx}{w:World}{m:Mem}{S:Wd}
theorem Mem.CO{m:Mem}{r:bH}(R:bz af F w m S)(h:aj m S r≠[]):∃b:Nat,m.aV r=b/\m.cU r n=(b,n,m.cap r):=by
 let⟨b,a⟩:=R.has h;exact⟨b,a,Mem.de a⟩
theorem Ly(m:Mem)(r:bH)(n:Nat)(h:m.aV r=none->n=0):∃a c,m.cU r n=.slice a n c:=by
 cases d:m.aV r with
 |none=>rw[h d];exact⟨none,0,Mem.j6 d⟩
 |some b=>exact⟨_,_,Mem.de d⟩
theorem lL(R:bz af F w m S):∃a c,m.cU .dQ S.aq=.slice a S.aq c:=
 Ly _ _ _ λh=>by have:=R.none_ _ h;simpa[aj]using this
theorem At.owner(A:At af F D u m w S){j:Nat}{v:Int}(a:m.aV .dQ=b):At af F D u m (w.setCell (b,j) v) {S with aq:=S.aq.set j v}:=by
 refine A.set a (by simp[aj,at9]) ?_;exact cc9
section
variable(R:bz af F w m S)
include R
theorem EY(l who:Int):gt 169 #[F.dY,l,who] w (eL (.bool (ax8 S.aq l who).2) λo=>At af F m w m o {S with aq:=(ax8 S.aq l who).1}):=by
 have i:=R.sM;have HR:=bM3;by_cases b:0<=l/\l<S.aq.length
 .obtain⟨j,rfl⟩:∃j:Nat,l=j:=⟨l.toNat,oX⟩;have hj:j<S.aq.length:=by omega
  have hx:S.aq[j]?=S.aq[j]:=fv hj;let⟨x,k⟩:=dC (S.aq[j]);rw[<-k]at hx;obtain⟨p,d,f⟩:=bO0;rw[f]at i;have:w.cell? (p,j)=I x:=R.cell d cq1;have:=R.frozen d j;unfold ax8;rw[eR,hx];by_cases q:who<0
  .rw[aE oX];go_enter func169,ntmps169;exact ca7
  by_cases h4:x= -1
  .subst h4;rw[aF ⟨oX,oX,ii⟩];have g:=ag (HR.out.owner (j:=j) (v:=who) d);go_enter func169,ntmps169;go_wp2;go_ret;exact⟨ii,g⟩
  rw[aE (by rintro⟨_,_,h⟩;exact h4 (mx h))];have:(x != -1)=true:=cw8
  clear R b f k hx d;go_enter func169,ntmps169;exact ca7
 let⟨a,c,f⟩:=lL R;rw[f]at i;unfold ax8;rw[iN b,aE sX];have h1:l<0\/(S.aq.length:Int)<=l:=oX
 go_enter func169,ntmps169;obtain h1|h1:=h1
 .exact ca7
 by_cases d:l<0
 .exact ca7
 exact ca7
theorem Lz(l who:Int):gt 156 #[F.dY,l,who] w (eL (.bool (oB S.aq l who).2) λo=>At af F m w m o {S with aq:=(oB S.aq l who).1}):=by
 have i:=R.sM;have HR:=bM3;by_cases b:0<=l/\l<S.aq.length
 .obtain⟨j,rfl⟩:∃j:Nat,l=j:=⟨l.toNat,oX⟩;have hj:j<S.aq.length:=by omega
  have hx:S.aq[j]?=S.aq[j]:=fv hj;let⟨x,k⟩:=dC (S.aq[j]);rw[<-k]at hx;obtain⟨p,f,d⟩:=bO0;rw[d]at i;have:w.cell? (p,j)=I x:=R.cell f cq1;have:=R.frozen f j;unfold oB;rw[eR,hx];by_cases q:who<0
  .rw[aE oX];go_enter func156,ntmps156;exact ca7
  by_cases h4:x=who
  .subst h4;rw[aF ⟨oX,oX,ii⟩];have g:=ag (HR.out.owner (j:=j) (v:= -1) f);go_enter func156,ntmps156;go_wp2;go_ret;exact⟨ii,g⟩
  rw[aE (by rintro⟨_,_,h⟩;exact h4 (mx h))];have:(x !=who)=true:=cw8
  clear R b d k hx f;go_enter func156,ntmps156;exact ca7
 let⟨a,c,d⟩:=lL R;rw[d]at i;unfold oB;rw[iN b,aE sX];have h1:l<0\/(S.aq.length:Int)<=l:=oX
 clear R b d;go_enter func156,ntmps156;obtain h1|h1:=h1
 .exact ca7
 by_cases f:l<0
 .exact ca7
 exact ca7
theorem Ih(l:Int):gt 55 #[F.dY,l] w (eL (owner S.aq l) λk=>w=k):=by
 have g:=R.sM;by_cases b:0<=l/\l<S.aq.length
 .obtain⟨j,rfl⟩:∃j:Nat,l=j:=⟨l.toNat,oX⟩;have hj:j<S.aq.length:=by omega
  have hx:S.aq[j]?=S.aq[j]:=fv hj;let⟨x,f⟩:=dC (S.aq[j]);rw[<-f]at hx;obtain⟨o,i,d⟩:=bO0;rw[d]at g;have:w.cell? (o,j)=I x:=R.cell i cq1;unfold owner;rw[eR,hx];clear R b d f hx i;go_enter func55,ntmps55;go_wp2;go_ret;exact⟨ii,ii⟩
 let⟨a,c,d⟩:=lL R;rw[d]at g;unfold owner;rw[iN b];have f:l<0\/(0<=l/\(S.aq.length:Int)<=l):=oX
 go_enter func55,ntmps55;obtain f|⟨i,f⟩:=f
 all_goals
  exact bZ9
theorem AI:Calls prog 201 #[F.dY] w (eL (I S.aq) λb=>w=b):=by
 have d:=R.sM;let⟨a,c,e⟩:=lL R;go_wp2;go_ret;exact⟨ii,ii⟩
end
end
section
variable{m0:Mem}
theorem Od(A:At b G m0 f D u E)(g:Nat)(h:E.gs[g]?=e)(i:(dH E g).cases.length<=1000):gt 92 #[bR G,I g] u λa d=>(∃c,a=Value.agg #[(dH E g).ai,(dH E g).ch,(dH E g).n,(dH E g).v,c,(dH E g).dG]/\dm u d c (dH E g).cases)/\At b G m0 f D d E:=
 (St A.bj g e h i).mono λa d ⟨c,j,k,l⟩=>⟨⟨c,j,l⟩,A.cont k⟩
theorem bp2(R:bz b G u D E)(g:Nat)(l:Int)(y:Wd)(a:Mach.lock E g l=y)(H:(dH E g).cases.length<=1000)(hx:∃x,E.gs[g]?=some x):gt 155 #[bR G,I g,l] u (ee λJ=>At b G D u D J y):=by
 let⟨x,hx⟩:=hx;have d:=ag (EY R l g);have:=bM3;have:=R.pC;have:=Sc;unfold Mach.lock at a;by_cases i:(ax8 E.aq l g).2=true
 .rw[aF i]at a;rw[i]at d;unfold fL at a;rw[hx]at a;simp[km]at a
  cases a;have p:dH ({E with aq:=(ax8 E.aq l g).1}:Wd) g=dH E g:=rfl
  have:=bM1;have c:Hid (({E with aq:=(ax8 E.aq l g).1}:Wd).gs[g]?=x):=hx;have z:Hid ((dH ({E with aq:=(ax8 E.aq l g).1}:Wd) g).cases.length<=1000):=by rw[p];exact H
  by_cases o:(dH E g).ai=6
  .rw[aF o];have r:Hid ((dH ({E with aq:=(ax8 E.aq l g).1}:Wd) g).ai=6):=by rw[p];exact o
   unfold bR;go_enter func155,ntmps155;go_wp2_with (first|(go_at_call 169;refine d.out.mono ?_;rintro e A ⟨rfl,j⟩;have k:=ag j)|(go_at_call 92;refine(Od k.out g c z).mono ?_;rw[r.out];rintro e K ⟨⟨L,rfl,_⟩,n⟩;have R3:=n.bj;have c3:=R3.eu;have M:=R3.g c 2 _ ii;have N:=bO1;have s:=n.g c {x with ae:=21} (q:=2) (v:=I 21);have t:=ag s));go_end0;exact⟨ii,t⟩
  rw[aE o];let⟨B,C⟩:=dC ((dH E g).ai);have r:Hid ((dH ({E with aq:=(ax8 E.aq l g).1}:Wd) g).ai=B):=by rw[p];exact C.symm
  have:(B==6)=false:=by rw[C];simpa using o
  unfold bR;go_enter func155,ntmps155;go_wp2_with (first|(go_at_call 169;refine d.out.mono ?_;rintro e A ⟨rfl,j⟩;have k:=ag j)|(go_at_call 92;refine(Od k.out g c z).mono ?_;rw[r.out];rintro e K ⟨⟨L,rfl,_⟩,n⟩;have R3:=n.bj;have c3:=R3.eu;have M:=R3.g c 2 _ ii;have N:=bO1;have s:=n.g c {x with ae:=5} (q:=2) (v:=I 5);have t:=ag s));go_end0;exact⟨ii,t⟩
 rw[aE i]at a
 cases a;have c:(ax8 E.aq l g).2=false:=by simpa using i
 have n:(ax8 E.aq l g).1=E.aq:=by unfold ax8 at i ⊢;grind
 rw[c,n]at d;unfold bR;go_enter func155,ntmps155;go_wp2_with (go_at_call 169;refine d.out.mono ?_;rintro e A ⟨rfl,j⟩;have k:=ag j);refine UV (ad8 ii _ _ _) ii ⟨ii,k⟩
theorem Fg{a:World}{cap:Nat}{v:Value}{o:Obj}{S2:Wd}(A:At b G m0 f D w' S2)(d:S2.gs[n]?=e)(r:w2=(w'.alloc o).drew)(s:v.ownBlock=D.aV (.OK n))(t:a.ownsRow b 3 1 (z,e.OK.length+1,cap) (e.OK+1) (e.OK.map I++[I Y]))(g:w2.grownBy a v.ownBlock)(i:v.ownBlock=z\/w2<=z):To b G m0 f (S2.ay n {e with OK:=e.OK++[Y],br:= -1}) ((a.setCell (G.gs,n*25+23) (z,e.OK.length+1,cap)).setCell (G.gs,n*25+9) (I (-1))):=by
 subst r;rw[s]at g i;have k:(e.OK++[Y]).length=e.OK.length+1:=sX
 have x:(e.OK++[Y]).map I=e.OK.map I++[I Y]:=sX
 have y:=((A.alloc o).drew).EC (j:=n) (x:=e) (l:=e.OK++[Y]) (g:=z) (c:=cap) d g (by rw[k,x];exact t) i;have p:=y.g (az d) {e with OK:=e.OK++[Y],br:= -1} (q:=9) (v:=I (-1));rw[aA,k]at p;exact⟨_,p⟩
theorem yT(R:bz b G u D E)(g s:Nat)(done:Bool)(S':Wd)(C:Mach.serve E g s done=S'):gt 152 #[bR G,I g,I s,.bool done] u (ee (To b G D u S')):=by
 unfold Mach.serve at C;simp only[bW,cI]at C;let⟨x,hx,W,O,z,X,y,Y,C⟩:=C;have X:=du X;by_cases T:z=g\/1000000<=x.OK.length
 .rw[aF T]at C;cases C
 rw[aE T]at C
 cases C;have Zw:z≠g:=λe=>T (.inl e)
 have:=bM1;have:z<E.gs.length:=um Y;have:s<E.ah.length:=um O;let⟨i0,hi,fV,jC,gG⟩:=AC lC;have c3:=R.eu;have c9:=R.ax7;have s1:=R.s O 1 _ ii;let⟨s6,a0⟩:=R.ssX O 6 _ ii;obtain⟨g9,Rz⟩:=bO2;let⟨j,V4⟩:=R.ps hx 23 rfl;let⟨z7,a1⟩:=R.ps Y 7 rfl;obtain⟨aU,Z,fO,aY,dx,aZ,a3,dz,eB⟩:=bM4;obtain⟨a,c,H⟩:=bM0;rw[H]at j;have V5:x.OK.length<1000001:=by have:=Nat.lt_of_not_le (λh=>T (.inr h));omega
 have A1:=(At.refl R).s O {W with done:=done} (q:=6) (v:=B done) oX ii;have J:=A1.g (x:=y) Y {y with aN:=s} (q:=7) (v:=I s);have l:((E.cJ s {W with done:=done}).ay z {y with aN:=s}).gs[g]?=x:=by rw[Cw Zw];exact hx
 rw[X]at s1 J l ⊢;have uV:=ag l;have nx:=ag J;have o1:¬z*25+7=g*25+9:=oX
 have o2:¬z*25+7=g*25+23:=oX
 clear R hx O Y X A1 J l H T Zw;unfold bR;go_enter func152,ntmps152;go_wp2;let⟨w2,nt,J⟩:∃w2,w2=_/\At b G D u D w2 _:=⟨_,ii,nx⟩;rw[<-nt];clear nt nx c3 c9 s1 s6 g9 j z7 a0 Rz V4 a1 aU Z fO o1 o2;have i:=J.bj;have l:=uV.out;have c3:=i.eu;let⟨g9,Rz⟩:=i.ps l 9 rfl;let⟨j,V4⟩:=i.ps l 23 rfl;have aU:=i.lt i.aB.aQ;have Z:=i.lt i.aB.gs;have aY:=i.ne i.aB.aQ i.aB.gs;have aZ:=aY.symm;let⟨a,c,H⟩:=i.shape (r:=.OK g) (n:=x.OK.length) (by simp[aj,l]);rw[H]at j;have k:=i.owns (r:=.OK g) (p:=(3,1)) ii dX (n:=x.OK.length) (by simp[aj,l]);have jM:aj D ((E.cJ s {W with g:=z,done:=done}).ay z {y with aN:=s}) (.OK g)=x.OK.map I:=by simp only[aj,l]
 rw[jM,H]at k;have jz:(Value.slice a x.OK.length c).ownBlock=D.aV (.OK g):=by rw[<-H,Mem.mM]
 have Kc:=ag jz;have nv:=ag k;have L:=i.eS;have oN:=i.jv (r:=.OK g) i.aB.aQ sX;have M:=i.jv (r:=.OK g) i.aB.gs sX;rw[<-jz]at oN M;have Zn:=ag oN;have A:=ag M;have nx:=ag J;have cP:E.gs.length=((E.cJ s {W with g:=z,done:=done}).ay z {y with aN:=s}).gs.length:=by simp[Wd.ay,Wd.cJ]
 rw[<-cP]at c3;clear i l H k jM jz oN M J cP;go_region_law (refine (ag (λ(a2:Array Oper) (o:Oper) (ac:Act) (K:Act->World->Prop) (Q:Exit->Act->World->Prop) (d:Prop) (W3:World)=>jN (P:=prog) (ops:=a2) (o:=o) (a:=ac) (K:=K) (Q:=Q) (E:=d) (s:=.tmp 45) (x:=.tmp 47) (t:=28) (ht:=underlying28) (hi:=hi) (hz:=fV) (hsize:=jC) (hby:=gG) (hzs:=rfl) (hsz:=ax5) (hbb:=vJ) (w2:=w2) (W3:=W3) (us:=#[I z]) (hus:=rfl) (h1:=aI8 z) (v:=(a,x.OK.length,c)) (n:=x.OK.length) (xs:=x.OK.map I) (hown:=nv.out) (hn:=V5) (hbase:=L))) _ _ _ _ _ _ _ ii ii ii ii ii ?_;intro gg cap w3 U N bE;have:=fW (o:=.cells #[I z] 3) N c3 ii Zn;have:=fW (o:=.cells #[I z] 3) N g9 ii A;have:=fW (o:=.cells #[I z] 3) N j ii A;have:=fN (o:=.cells #[I z] 3) N Rz Z ii A;have:=fN (o:=.cells #[I z] 3) N V4 Z ii A;let⟨Iq,Ns,SH⟩:=ij U N bE;clear U N bE)
 all_goals
  go_wp2;go_end0;exact⟨ii,Fg nx uV ii Kc Iq Ns SH⟩
end
section
variable{af:Nat}{F:Fx}{w:World}{m:Mem}{S:Wd}
theorem sP{b:List (Int×Bool)}{g:Int}(h:bU b g≠2):∃j:Nat,g=j/\j<b/\b[j]?=(bU b g,token b g):=by
 by_cases a:0<=g/\g<b.length
 .obtain⟨j,rfl⟩:∃j:Nat,g=j:=⟨g.toNat,oX⟩;let⟨x,c⟩:∃x,b[j]?=some x:=⟨_,fv oX⟩;exact⟨j,ii,oX,by simp[bU,token,eR,c]⟩
 exact aX (by simp[bU,iN a]) h
section
variable(R:bz af F w m S)(g:Int)
include R g
theorem gZ:gt 50 #[F.dB,g] w (eL (bU S.ax g) λc=>w=c):=by
 have:=R.Bu;unfold bU;by_cases a:0<=g/\g<S.ax.length
 .obtain⟨j,rfl⟩:∃j:Nat,g=j:=⟨g.toNat,oX⟩;let⟨⟨d,e⟩,b⟩:∃x,S.ax[j]?=some x:=⟨_,fv oX⟩;let⟨f,i⟩:=R.one b;rw[eR,b];go_enter func50,ntmps50;go_wp2;go_ret;exact⟨ii,ii⟩
 rw[iN a];have h1:g<0\/(0<=g/\(S.ax.length:Int)<=g):=oX
 go_enter func50,ntmps50;exact ci6
theorem Ij:gt 51 #[F.dB,g] w (eL (.bool (token S.ax g)) λc=>w=c):=by
 have:=R.Bu;unfold token;by_cases a:0<=g/\g<S.ax.length
 .obtain⟨j,rfl⟩:∃j:Nat,g=j:=⟨g.toNat,oX⟩;let⟨⟨d,e⟩,b⟩:∃x,S.ax[j]?=some x:=⟨_,fv oX⟩;let⟨f,i⟩:=R.one b;rw[eR,b];go_enter func51,ntmps51;go_wp2;go_ret;exact⟨ii,ii⟩
 rw[iN a];have h1:g<0\/(0<=g/\(S.ax.length:Int)<=g):=oX
 go_enter func51,ntmps51;exact ci6
theorem LC:gt 157 #[F.dB,g] w (eL (.bool (tD S.ax g).2) λw'=>At af F m w m w' {S with ax:=(tD S.ax g).1}):=by
 have:=R.Bu;have pI:=bO3;have HR:=bM3;unfold tD;by_cases h0:bU S.ax g=0
 .obtain⟨j,rfl,f,hx⟩:=bO4;rw[h0]at hx pI;rw[aE (by rw[h0];simp)];obtain⟨d,a⟩:=bO5;rw[<-a]at hx;rw[<-a];let⟨i,k⟩:=R.one hx;have:=R.frozen R.aB.ax (j*2);have:=R.frozen R.aB.ax (j*2+1);have c:=bL7;clear R hx h0 a
  cases d
  .rw[aE sX];have Ap:=ag (HR.out.one (q:=0) c (1,false) oX (v:=I 1) ii);go_enter func157,ntmps157;exact cb0
  rw[aF rfl];have Ap:=ag (HR.out.one (q:=1) c (0,false) oX (v:=B false) ii);go_enter func157,ntmps157;exact cb0
 rw[aF h0];let⟨a,c⟩:∃a,a=bU S.ax g:=⟨_,ii⟩;rw[<-c]at pI h0;have:(a !=0)=true:=cq3
 go_enter func157,ntmps157;go_wp2_with fail
 refine(pI _ HR.out.bj).mono ?_;rintro e w' ⟨rfl,rfl⟩;go_wp2;go_ret;exact⟨ii,HR⟩
theorem Ik:gt 160 #[F.dB,g] w (eL (.bool (ready S.ax g).2) λw'=>At af F m w m w' {S with ax:=(ready S.ax g).1}):=by
 have:=R.Bu;have pI:=bO3;have HR:=bM3;unfold ready;by_cases h1:bU S.ax g=1
 .obtain⟨j,rfl,f,hx⟩:=bO4;rw[h1]at hx pI;rw[aF h1];obtain⟨d,a⟩:=bO5;rw[<-a]at hx;rw[<-a];let⟨i,k⟩:=R.one hx;have:=R.frozen R.aB.ax (j*2);have Ap:=ag (HR.out.one (q:=0) hx (0,d) oX (v:=I 0) ii);go_enter func160,ntmps160;go_wp2_with fail
  refine(pI _ HR.out.bj).mono ?_;rintro e w' ⟨rfl,rfl⟩;go_wp2;go_ret;exact⟨ii,Ap⟩
 by_cases h0:bU S.ax g=0
 .obtain⟨j,rfl,f,hx⟩:=bO4;rw[aE h1];rw[h0]at hx pI;obtain⟨d,a⟩:=bO5;rw[<-a]at hx;rw[<-a,h0];let⟨i,k⟩:=R.one hx;have:=R.frozen R.aB.ax (j*2+1);have c:=bL7;clear R hx h0 a h1
  cases d
  .rw[aF ⟨ii,ii⟩];have Ap:=ag (HR.out.one (q:=1) c (0,true) oX (v:=B true) ii);go_enter func160,ntmps160;exact cb0
  rw[aE sX];go_enter func160,ntmps160;exact ci7
 rw[aE h1,aE (by rintro⟨h,_⟩;exact h0 h)];let⟨c,l⟩:∃c,c=bU S.ax g:=⟨_,ii⟩;rw[<-l]at pI h0 h1;have:(c==0)=false:=cq3
 have:(c==1)=false:=cm9
 go_enter func160,ntmps160;go_wp2_with fail
 refine(pI _ HR.out.bj).mono ?_;rintro e w' ⟨rfl,rfl⟩;go_wp2;go_ret;exact⟨ii,HR⟩
end
end
section
variable{af:Nat}{F:Fx}{w:World}{m:Mem}
theorem bz.eU(R:bz af F w m E){i:Nat}{r:Ring}(h:E.au[i]?=r):∃d:Nat,m.aV (.eU i)=d/\∃a c,m.cU (.pl0 i) r.pl0=(a,r.pl0.length,c)/\w.cell? d=some (.slice a r.pl0 c)/\w.cell? (d,1)=I r.first/\w.cell? (d,2)=I r.count/\(r.pl0≠[]->∃e:Nat,m.aV (.pl0 i)=e/\a=e/\e≠d/\∀(j:Nat) v,r.pl0[j]?=some v->w.cell? (e,j)=I v):=by
 let⟨d,f⟩:=R.has (r:=.eU i) cr0;refine⟨d,f,?_⟩
 let⟨a,c,g⟩:∃a c,m.cU (.pl0 i) r.pl0.length=.slice a r.pl0 c:=by
  cases l:m.aV (.pl0 i) with
  |none=>
   have k:=R.none_ _ l;simp[aj,h,at3]at k;exact⟨none,0,by rw[Mem.j6 l,k];rfl⟩
  |some b=>exact⟨_,_,Mem.de l⟩
 refine⟨a,c,g,?_,R.cell f cr0,R.cell f cr0,λn=>?_⟩
 .rw[<-g];exact R.cell f cr0
 let⟨e,k⟩:=R.has (r:=.pl0 i) (by simpa[aj,h]using n);rw[Mem.de k]at g
 cases g;exact⟨e,k,ii,R.ne k f,λj v o=>R.cell k (by simp[aj,h,o])⟩
theorem qe{E:Wd}{r:Ring}{y:Ring}(h:E.au[b]?=r)(g:Nat):(E.au.set b y)[g]?=if g=b then some y else E.au[g]?:=by
 grind
theorem At.eU(A:At af F D u m w E){i a q:Nat}{r:Ring}(h:E.au[i]?=r)(c:m.aV (.eU i)=a)(y:Ring)(d:y.pl0=r.pl0){v:Value}(f:[m.cU (.pl0 i) y.pl0,y.first,y.count]=[m.cU (.pl0 i) r.pl0,r.first,r.count].set q v):At af F D u m (w.setCell (a,q) v) (E.dZ i y):=by
 refine A.set c ?_ ?_
 .simp[aj,Wd.dZ,qe h,h];exact f
 intro g b
 cases g<;>first|exact aX ii b|rfl|(simp[aj,Wd.dZ])|skip
 all_goals
  rename_i k;simp[aj,Wd.dZ,qe h];by_cases e:k=i
  .subst e;first|exact aX ii b|(simp[h,d])
  simp[aE e]
theorem At.ae(A:At af F D u m w E){j:Nat}{r:Ring}(h:E.au[b]?=r)(c:m.aV (.pl0 b)=n)(v:Int):At af F D u m (w.setCell (n,j) v) (E.dZ b {r with pl0:=r.pl0.set j v}):=by
 refine A.set c ?_ ?_
 .simp[aj,Wd.dZ,qe h,h,at9]
 intro d a
 cases d<;>first|exact aX ii a|rfl|(simp[aj,Wd.dZ])|skip
 all_goals
  rename_i k;simp[aj,Wd.dZ,qe h];by_cases e:k=b
  .subst e;first|exact aX ii a|(simp[h])
  simp[aE e]
theorem uR{E:Wd}{x y:Ring}(h:E.au[b]?=x):(E.dZ b y).au[b]?=y:=getElem?_set_self' h
theorem vM{E:Wd}{x y:Ring}:(E.dZ b x).dZ b y=E.dZ b y:=cw3
theorem sO{E:Wd}{x:Ring}(h:E.au[b]?=x):E.dZ b x=E:=by
 have:E.au.set b x=E.au:=by apply ad9;grind
 unfold Wd.dZ;rw[this]
section
variable(R:bz af F w m E){r:Ring}(h:E.au[n]?=r)(fA:m.aV (.eU n)=z)
include R h fA
theorem xR(o:r.Ok)(k:Nat)(x:k<=64)(p:0<r.pl0.length):gt 87 #[z,I k] w (eL (I (r.at_ k)) λq=>∃b,q=w.drewN b):=by
 let⟨y,g,a,c,s,t,c1,c2,_⟩:=R.eU h;rw[fA]at g
 cases g;let⟨f0,f1,_,_,v⟩:=o;let⟨f,j⟩:∃f:Nat,r.first=f:=⟨r.first.toNat,oX⟩;have:(f:Int)<=64:=oX
 obtain⟨b,l⟩:=bO6;have e:((r.at_ k:Nat):Int)=((f:Int)+k).tmod b:=by grind [Ring.at_]
 have d:=ag e;rw[<-l]at t p v;rw[j]at c1;have:IntKind.i64.wrap ((f:Int)+k)=(f:Int)+k:=jX oX;have:0<=(f:Int)+k:=oX
 clear R h fA f0 f1 s e j l;go_enter func87,ntmps87;go_wp2;go_quiet (fail);go_wp2;go_ret;exact⟨by rw[d.out];rfl,_,ii⟩
theorem vO:gt 204 #[z] w (eL (.bool r.full) λj=>∃b,j=w.drewN b):=by
 let⟨p,e,a,c,l,o,c1,c2,_⟩:=R.eU h;rw[fA]at e
 cases e;unfold Ring.full;obtain⟨b,f⟩:=bO6;let⟨k,g⟩:=dC (r.count);rw[<-f]at o ⊢;rw[<-g]at c2 ⊢;clear R h fA l f g;go_enter func204,ntmps204;go_wp2;go_quiet (fail);go_wp2;go_ret;exact⟨by first|rfl|(congr 1;simp[d]),_,ii⟩
theorem bh9(H:r.Ok)(v:Int):gt 153 #[z,v] w (eL (.bool (r.put v).2) λl=>At af F m w m l (E.dZ n (r.put v).1)):=by
 let⟨Hw,J,a,c,T,K,c1,c2,L⟩:=R.eU h;rw[fA]at J
 cases J;let⟨f0,f1,U,X,Y⟩:=H;let⟨k,g⟩:∃k:Nat,r.count=k:=⟨r.count.toNat,oX⟩;have s:k<=r.pl0.length:=oX
 have t:=bM3;have Z:=ag fA;have M:=ag h;have o:=ag (vO R h fA);unfold Ring.put Ring.full;rw[g]at c2;by_cases f:k=r.pl0.length
 .rw[g,aF (by simpa using congrArg (Nat.cast:Nat->Int) f),sO h];rw[<-f]at K;have p:r.full=true:=by unfold Ring.full;rw[g];simpa using congrArg (Nat.cast:Nat->Int) f
  rw[p]at o;go_enter func153,ntmps153;go_wp2_with fail
  refine o.out.mono ?_;rintro e l ⟨rfl,nq,rfl⟩;go_wp2;go_ret;exact⟨ii,t.out.drewN _⟩
 rw[g,aE ci8];obtain⟨pb,y,rfl,cM,N⟩:=L (by intro e;rw[e]at s f;simp at s f;omega);have A:r.at_ k<r.pl0.length:=by unfold Ring.at_;have:=aj7 (r.first+k) (b:=(r.pl0.length:Int)) oX;omega
 let⟨x,O⟩:∃x,r.pl0[r.at_ k]?=some x:=⟨_,fv A⟩;have cx:=N _ _ O;have fx:=R.frozen y (r.at_ k);have:=R.frozen fA 2;have B:=λW (R:bz af F W m E)=>xR R h fA (ag H) k oX oX
 let⟨j,C⟩:=dC (r.at_ k);rw[<-C]at cx fx A B;rw[<-C];have UA:=ag B;have:=R.lt fA;have:=R.lt y;have:=cM.symm;obtain⟨d,G⟩:=bO6;rw[<-G]at K A f s Y;have Q:=t.out.ae (j:=j) M y v;have A2:=ag (Q.eU (q:=2) (uR M) Z {r with pl0:=r.pl0.set j v,count:=k+1} rfl (v:=I (k+1)) sX);have:((k:Int)==(d:Int))=false:=ci8
 have p:r.full=false:=by unfold Ring.full;rw[g,<-G];simp;omega
 rw[p]at o;clear R h fA f0 f1 U X T g L N O B Q C G f p;go_enter func153,ntmps153;go_wp2_with fail
 refine o.out.mono ?_;rintro e l ⟨rfl,nq,rfl⟩;go_wp2;go_region_with (go_at_call 87;refine(UA _ ?_).mono ?_;exact t.out.bj.heap (λ_ _ _=>rfl);rintro e l ⟨rfl,a0,rfl⟩)
 all_goals
  go_wp2;go_ret;exact⟨ii,(A2.out.eq (vM)).aI⟩
theorem N2(y:r.Ok):gt 209 #[z] w (eL (.tuple #[r.get.2.1,.bool r.get.2.2]) λA=>At af F m w m A (E.dZ n r.get.1)):=by
 let⟨Hw,B,a,c,T,U,c1,c2,C⟩:=R.eU h;rw[fA]at B
 cases B;let⟨f0,f1,X,Y,Z⟩:=y;let⟨k,d⟩:∃k:Nat,r.count=k:=⟨r.count.toNat,oX⟩;let⟨f,g⟩:∃k:Nat,r.first=k:=⟨r.first.toNat,oX⟩;have l:k<=r.pl0.length:=oX
 have o:=bM3;have G:=ag fA;have H:=ag h;unfold Ring.get;rw[d]at c2;rw[g]at c1;by_cases J:k=0
 .subst J;rw[d,aF (show((0:Nat):Int)=0 from ii),sO h];have:w.cell? (z,2)=I 0:=c2;go_enter func209,ntmps209;go_wp2;go_ret2;exact⟨ii,o⟩
 rw[d,aE oX];obtain⟨pb,CJ,rfl,cM,K⟩:=C (by intro e;rw[e]at l;simp at l;omega);have L:f<r.pl0.length:=oX
 let⟨x,p⟩:∃x,r.pl0[f]?=some x:=⟨_,fv L⟩;have:=K _ _ p;have:=R.frozen fA 1;have:=R.frozen fA 2;have s:=λW (R:bz af F W m E)=>xR R h fA (ag y) 1 oX oX
 have M:r.pl0.getD f 0=x:=by simp[List.getD,p]
 rw[g,oU,M];let⟨j,t⟩:=dC (r.at_ (1:Nat));have N:r.at_ 1=j:=t.symm;rw[<-t]at s;rw[N];have UA:=ag s;obtain⟨b,O⟩:=bO6;rw[<-O]at U L l Z;have Q:=o.out.eU (q:=1) H G {r with first:=j} rfl (v:=I j) sX;have A2:=ag (Q.eU (q:=2) (uR H) G {r with first:=j,count:=k-1} rfl (v:=I (k-1)) sX);have:((k:Int)==0)=false:=ci8
 clear R h fA f0 f1 X Y T d C K p s Q t N O g M J;go_enter func209,ntmps209;go_wp2;go_quiet (fail);go_wp2_with (go_at_call 87;refine(UA _ ?_).mono ?_;exact o.out.bj.heap (λ_ _ _=>rfl);rintro e A ⟨rfl,a0,rfl⟩);go_ret2;exact⟨ii,(A2.out.eq (vM)).aI⟩
theorem BH(ok:r.Ok)(v:Int):gt 208 #[z,v] w (eL (.tuple #[(r.pass v).2.1,.bool (r.pass v).2.2]) λo=>At af F m w m o (E.dZ n (r.pass v).1)):=by
 let⟨Hw,G,a,c,hh,c0,c1,c2,H⟩:=R.eU h;rw[fA]at G
 cases G;let⟨f0,f1,J,k1,K⟩:=ok;let⟨k,d⟩:∃k:Nat,r.count=k:=⟨r.count.toNat,oX⟩;let⟨f,s⟩:∃k:Nat,r.first=k:=⟨r.first.toNat,oX⟩;have t:k<=r.pl0.length:=oX
 have l:=bM3;have L:=ag h;have p:=ag (λW (R:bz af F W m E)=>vO R h fA);unfold Ring.pass;rw[d]at c2;rw[s]at c1;by_cases M:k=0
 .subst M;rw[aF (Or.inl (show r.count=0 from d)),sO h];have:w.cell? (z,2)=I 0:=c2;go_enter func208,ntmps208;go_wp2;go_ret2;exact⟨ii,l⟩
 have:((k:Int)==0)=false:=ci8
 by_cases N:k=r.pl0.length
 .have g:r.full=true:=by unfold Ring.full;rw[d];simpa using congrArg (Nat.cast:Nat->Int) N
  rw[d,g,aE ci8];rw[g]at p;obtain⟨pb,O,rfl,cM,Q⟩:=H (by intro e;rw[e]at t;simp at t;omega);have T:f<r.pl0.length:=oX
  let⟨x,y⟩:∃x,r.pl0[f]?=some x:=⟨_,fv T⟩;have:=Q _ _ y;have:=R.frozen O f;have:=R.frozen fA 1;have U:r.pl0.getD f 0=x:=by simp[List.getD,y]
  rw[s,oU,U];let⟨j,A⟩:=dC (r.at_ (1:Nat));have X:r.at_ 1=j:=A.symm;rw[X];have A1:=l.out.ae (j:=f) L O v;have B:=λW (R:bz af F W m (E.dZ n {r with pl0:=r.pl0.set f v}))=>xR R (uR h) fA (r:={r with pl0:=r.pl0.set f v}) ⟨f0,by simpa using f1,J,cu2,by simpa using K⟩ 1 oX ci8
  have Y:Ring.at_ {r with pl0:=r.pl0.set f v} (1:Nat)=j:=by rw[A];simp[Ring.at_]
  rw[Y]at B;have UA:=ag B;have:=cM.symm;obtain⟨b,Z⟩:=bO6;rw[<-Z]at c0 T t K;have ri:=bO7;have A2:=ag (A1.eU (q:=1) (uR L) (ag fA) {r with pl0:=r.pl0.set f v,first:=j,count:=k} rfl (v:=I j) (by simp[d]));clear R h fA f0 f1 J k1 hh d H Q y B A1 A X Y Z s U M g N;go_enter func208,ntmps208;go_wp2_with (go_at_call 204;refine(p _ ?_).mono ?_;exact l.out.bj.heap (λ_ _ _=>rfl);rintro e o ⟨rfl,C,rfl⟩);go_quiet (fail);go_wp2;go_region
  all_goals
   go_wp2_with (go_at_call 87;refine(UA _ ?_).mono ?_;exact ri.out.bj.heap (λ_ _ _=>rfl);rintro e o ⟨rfl,a0,rfl⟩);go_ret2;exact⟨ii,(A2.out.eq (vM)).aI⟩
 have g:r.full=false:=by unfold Ring.full;rw[d];simp;omega
 rw[g,aF (Or.inr ii)];rw[g]at p;rw[sO h];go_enter func208,ntmps208;go_wp2_with (go_at_call 204;refine(p _ ?_).mono ?_;exact l.out.bj.heap (λ_ _ _=>rfl);rintro e o ⟨rfl,C,rfl⟩);go_ret2;exact⟨ii,l.out.aI⟩
end
end
theorem bs2(h:b<z):decide ((b:Int)<(z:Int)):=ck0
theorem Lp(R:bz n G u D E)(k x:Int)(U:er)(b:Bool)(a:E.ef.push k x=(U,b)):gt 103 #[G.ef,k,x] u (eL (.bool b) λw'=>At n G D u D w' {E with ef:=U}):=by
 have HR:=bM3;have cT:=R.xN;have cL:=R.yq;unfold er.push at a;by_cases o:0<=k/\k<E.ef.bM.length
 .obtain⟨d,rfl⟩:∃j:Nat,k=j:=⟨k.toNat,oX⟩;have W:d<E.ef.bM.length:=by omega
  obtain⟨l,f⟩:∃x,E.ef.bM[d]?=some x:=⟨_,fv W⟩;have hd:=bs2 W;by_cases J:0<=x/\x<E.ef.aS.length
  .obtain⟨j,rfl⟩:∃j:Nat,x=j:=⟨x.toNat,oX⟩;have hj:j<E.ef.aS.length:=by omega
   obtain⟨t,p⟩:∃x,E.ef.aS[j]?=some x:=⟨_,fv hj⟩;obtain⟨e0,e1,e2⟩:=R.thing p;obtain⟨l0,l1,l2⟩:=R.line f;simp only[eR,f,p,oU]at a;by_cases g:t.pX≠ -1
   .rw[aF g]at a
    cases a;have i:(t.pX != -1)=true:=(by simpa using g);clear R o J f p g;go_enter func103,ntmps103;exact ca7
   rw[aE g]at a;have X:t.pX= -1:=(by simpa using g);rw[X]at e0;by_cases K:kJ l.count=false
   .rw[aF K]at a;cases a
   rw[aE K]at a;have VH: -1000000000<=l.count/\l.count<=1000000000:=(by simpa[kJ]using K);have L:=R.frozen R.aB.bM;have r:=R.frozen R.aB.aS;obtain⟨Lq,Lr,N4,vP,xr,vQ,xt,xu,xv⟩:=R.zQ R.aB.ef R.aB.aS R.aB.bM;have Y:=λy z h=>R.thing (j:=y) (x:=z) h
   obtain⟨Z,s,UC,VJ⟩:=ia p f r Y;have f2:=L (d*3+2);have f1:=L (d*3+1);have f0:=L (d*3);have a0:=r (j*3);have a1:=r (j*3+1);have a2:=r (j*3+2);obtain⟨c,A⟩:=dC (l.last);rw[<-A]at l1;clear R o J p f K L r Y g X;by_cases i:l.last= -1
   .rw[aF i]at a
    cases a;obtain rfl:c= -1:=by rw[A,i]
    rw[i];have B:=HR.out.vK Z {pX:=d,behind:= -1,ahead:= -1};have C:=B.line (q:=0) (j:=d) (x:=l) s {l with first:=j} oX (v:=I j) ii;have H:=C.line (q:=1) (j:=d) (x:={l with first:=j}) (lE s) {l with first:=j,last:=j} oX (v:=I j) ii;have N:=ag (H.line (q:=2) (j:=d) (x:={l with first:=j,last:=j}) (lE (lE s)) {first:=j,last:=j,count:=l.count+1} oX (v:=I (l.count+1)) ii);clear i A B C H;go_enter func103,ntmps103;go_wp2;go_region;go_wp2;go_ret;exact⟨ii,(N.out.eq (by simp[er.fe,er.fJ,my])).drew⟩
   rw[aE i]at a;simp only[bW,cI]at a;obtain⟨y,hy,O,M,a⟩:=a;have Q:=du hy;by_cases T:y=j
   .rw[aF T]at a;cases a
   rw[aE T]at a
   cases a;obtain rfl:c=y:=by rw[A,Q]
   have Hy:((y:Int)== -1)=false:=sX;have a3:y<E.ef.aS.length:=um M;obtain⟨t0,t1,t2⟩:=VJ.out y O M;have fy:=UC.out (y*3+1);have Ls:y*3+1≠j*3+1:=oX;have a4:y*3+1≠j*3+2:=oX;have a5:y*3+1≠j*3:=oX;rw[Q];have B:=HR.out.vK Z {pX:=d,behind:= -1,ahead:=y};have C:=B.thing (q:=1) (j:=y) (x:=O) (rL M (λe=>T e.symm)) {O with behind:=j} oX (v:=I j) ii;have H:=C.line (q:=1) (j:=d) (x:=l) s {l with last:=j} oX (v:=I j) ii;have N:=ag (H.line (q:=2) (j:=d) (x:={l with last:=j}) (lE s) {l with last:=j,count:=l.count+1} oX (v:=I (l.count+1)) ii);clear i A B C H M hy Q;go_enter func103,ntmps103;go_wp2;go_region;go_wp2;go_region;go_wp2;go_ret;exact⟨ii,(N.out.eq (by simp[er.fe,er.fJ,my])).drew.drew⟩
  have h1:x<0\/(0<=x/\(E.ef.aS.length:Int)<=x):=oX
  rw[iN J]at a;simp only[eR,f]at a
  cases a;clear R o J f;go_enter func103,ntmps103;rcases h1 with h1|⟨g,h1⟩
  all_goals
   exact ca7
 have h1:k<0\/(0<=k/\(E.ef.bM.length:Int)<=k):=oX
 rw[iN o]at a;simp only at a
 cases a;clear R o;go_enter func103,ntmps103;rcases h1 with h1|⟨g,h1⟩
 .exact ca7
 have hd:decide (k<(E.ef.bM.length:Int))=false:=cm9
 exact ca7
def aW5(has:Bool)(n most:Int):Bool:=if has then decide (0<=n)&&decide (n<=most)else decide (n=0)
theorem nD(has:Bool)(n most:Int)(w:World):gt 194 #[has,n,most] w (eL (.bool (aW5 has n most)) λa=>w=a):=by
 go_enter func194,ntmps194
 cases has;all_goals go_wp2
 all_goals
  go_ret;refine⟨?_,ii⟩;unfold aW5;simp_all;try first|rfl|omega
theorem IU(k:Int)(w:World):gt 195 #[k] w (eL (.bool (il k)) λa=>w=a):=by
 go_enter func195,ntmps195;go_wp2
 all_goals
  go_ret;refine⟨?_,ii⟩;unfold il;simp_all;try omega
theorem Mj(k:Int)(w:World):gt 196 #[k] w (eL (.bool (kD k)) λa=>w=a):=by
 go_enter func196,ntmps196;go_wp2
 all_goals
  go_ret;refine⟨?_,ii⟩;unfold kD;by_cases b:k=2<;>by_cases c:k=4<;>simp_all
structure IV(o:cu):Prop where
 k:1<=o.ai/\o.ai<=9
 ch:aW5 (il o.ai) o.ch 8
 v:aW5 (kD o.ai) o.v 255
 n:aW5 (o.ai==1) o.n 4
 plain:o.ai≠9->o.cases.length=0/\o.dG=false
 cl:o.cases.length<=6
 cs:∀c∈o.cases,aW5 true c.ch 8/\aW5 c.cF c.v 255
theorem WE(h:yF L):IV L:=by
 unfold yF at h;simp only[qs,ay2,lm,Bool.not_eq_true',ak6]at h;obtain⟨⟨⟨⟨⟨⟨⟨⟨⟨⟨⟨⟨⟨a,b⟩,g⟩,i⟩,j⟩,k⟩,l⟩,m⟩,d⟩,n⟩,o⟩,p⟩,q⟩,e⟩:=h;refine⟨⟨a,b⟩,?_,?_,?_,λr=>?_,d,λc f=>?_⟩
 .grind [aW5]
 .grind [aW5]
 .grind [aW5]
 .grind
 have:=e c f;unfold qg at this;simp only[qs,ay2,lm]at this;grind [aW5]
theorem Ba(o:cu)(h:IV o)(x:am)(p:Nat)(w:World)(g:gW w x o.cases):gt 135 #[.agg #[o.ai,o.ch,o.n,o.v,(x,o.cases.length,p),o.dG]] w (oV (Below w w)):=by
 obtain⟨d,q,n,v,Y,r⟩:=o;obtain⟨A,G,H,J,K,Z,L⟩:=h;simp only at A G H J K Z L g ⊢;have WG:Hid (∀a,gt 194 #[B (il d),I q,I 8] a λe f=>e=Value.bool true/\a=f):=λa=>by rw[<-G];exact nD _ _ _ a
 have HV:Hid (∀a,gt 194 #[B (kD d),I v,I 255] a λe f=>e=Value.bool true/\a=f):=λa=>by rw[<-H];exact nD _ _ _ a
 have M:Hid (∀a,gt 194 #[B (d==1),I n,I 4] a λe f=>e=Value.bool true/\a=f):=λa=>by rw[<-J];exact nD _ _ _ a
 have s:Hid (∀a,gt 195 #[I d] a λe f=>e=Value.bool (il d)/\a=f):=λa=>IU d a
 have t:Hid (∀a,gt 196 #[I d] a λe f=>e=Value.bool (kD d)/\a=f):=λa=>Mj d a
 have XP:=ag g;have BJ:=ag L;obtain⟨m,C⟩:=dC (Y.length);rw[<-C]at Z ⊢;have u:d≠9->m=0/\r=false:=by rw[C];exact K
 have y:=ag u;have HM:=ag C;have jg:=A.1;have jO:=A.2;clear A G H J K L g C u;obtain⟨a,jk⟩:=dC (w.alloc (.cells #[I d,I q,I n,I v,(x,m,p),B r] 49));obtain⟨b,N⟩:=dC (w.heap.size);have Uh:a.heap[b]?=some (.cells #[I d,I q,I n,I v,(x,m,p),B r] 49 (0,0)):=by rw[jk,N];exact dP
 have CM:Hid (Below w w a):=cs8
 have O:a.cell? b=I d:=cv1
 have x1:a.cell? (b,1)=I q:=cv1
 have x2:a.cell? (b,2)=I n:=cv1
 have x3:a.cell? (b,3)=I v:=cv1
 have x4:a.cell? ⟨b,4,none⟩=some (.slice x m p):=cv1
 have x5:a.cell? (b,5)=B r:=cv1
 obtain⟨HW,IX⟩:=dA jk N;clear jk N Uh;go_enter func135,ntmps135;go_upto_region 1 with fail
 rw[<-HW.out,<-IX.out];go_upto_region 4 with fail
 go_region_held3 (λW=>W.cell? b=I d/\W.cell? (b,1)=I q/\W.cell? (b,3)=I v) (first|exact⟨O,x1,x3⟩|go_keep)
  (first
   |(go_at_call 195;refine(s _).mono ?_;rintro e z ⟨rfl,rfl⟩)
   |(go_at_call 196;refine(t _).mono ?_;rintro e z ⟨rfl,rfl⟩)
   |(go_at_call 194;(first|with_reducible refine(WG.out _).mono ?_|with_reducible refine(HV.out _).mono ?_);rintro e z ⟨rfl,rfl⟩))
 have D:Hid (Below w w a.drew):=CM.out.drew;obtain⟨E,l⟩:=dC (a.drew);rw[<-l]at D ⊢;have y0:E.cell? b=I d:=by rw[l];exact O
 have y2:E.cell? (b,2)=I n:=by rw[l];exact x2
 have y4:E.cell? ⟨b,4,none⟩=some (.slice x m p):=by rw[l];exact x4
 have y5:E.cell? (b,5)=B r:=by rw[l];exact x5
 clear O x1 x2 x3 x4 x5 l WG HV s t HW IX CM;by_cases oz:d=9
 .subst oz;go_upto_region 12 with(go_at_call 194;refine(M _).mono ?_;rintro e z ⟨rfl,rfl⟩)
  go_wp2;go_loopw [59] (λi wr=>∃j:Nat,i=.int .i64 j/\j<=m/\Hid (Below w.heap.size w wr)) (λi _=>m-(intOf i).toNat)
  case atStart=>exact⟨0,ii,oX,D⟩
  clear D y0 y2 y4 y5 M y jg jO;obtain⟨j,rfl,hj,F⟩:=hrel;by_cases dD:j<m
  .obtain⟨c,g⟩:∃c,Y[j]?=some c:=⟨_,fv cr2⟩;obtain⟨b2,o2,rfl,e0,e1,e2,_⟩:=(XP.out.below F cG).2 j c g;obtain⟨Q,R⟩:=BJ.out c (lf g);obtain⟨S,k,T⟩:=c;simp only at e0 e1 e2 Q R;have Zf:Hid (∀a,gt 194 #[B true,I k,I 8] a λe f=>e=Value.bool true/\a=f):=λa=>(nD true k 8 a).mono (by rintro e f ⟨U,X⟩;exact⟨by rw[U,Q],X⟩)
   have VD:Hid (∀a,gt 194 #[B S,I T,I 255] a λe f=>e=Value.bool true/\a=f):=λa=>(nD S T 255 a).mono (by rintro e f ⟨U,X⟩;exact⟨by rw[U,R],X⟩)
   have hs:=F.out.size;have tK:Hid (Below w w (wr.alloc (.cells #[B S,I k,I T] 52))):=F.out.alloc hs _;clear Q R g;go_wp2_with (go_at_call 194;(first|with_reducible refine(Zf.out _).mono ?_|with_reducible refine(VD.out _).mono ?_);rintro e z ⟨rfl,rfl⟩);go_roundw
   case rel=>exact⟨j+1,cj8,oX,tK⟩
   simp[intOf];omega
  obtain rfl:j=m:=oX
  go_wp2;go_ret;exact⟨ii,F⟩
 obtain⟨rfl,rfl⟩:=y.out oz;go_wp2_with (go_at_call 194;refine(M _).mono ?_;rintro e z ⟨rfl,rfl⟩);go_ret;exact⟨ii,D⟩
theorem sq:gt 75 #[Y] v (eL (.bool (il Y)) λa=>v=a):=by
 unfold il;by_cases h1:2<=Y
 .have b:decide (2<=Y)=true:=by simpa using h1
  go_enter func75,ntmps75;go_wp2;go_ret;simp_all[eL]
 have b:decide (2<=Y)=false:=cm9
 go_enter func75,ntmps75;go_wp2;go_ret;simp_all[eL]
theorem uc:gt 76 #[Y] v (eL (.bool (kD Y)) λa=>v=a):=by
 unfold kD;by_cases h1:Y=2
 .subst h1;go_enter func76,ntmps76;go_wp2;go_ret;exact⟨sX,ii⟩
 have c:(Y==2)=false:=cm9
 go_enter func76,ntmps76;go_wp2;go_ret;refine⟨?_,ii⟩;by_cases b:Y=4<;>simp[h1,b]
def mI(o:cu):Bool:=decide (1<=o.ai)&&decide (o.ai<=9)&&decide (0<=o.ch)&&decide (o.ch<=8)&&decide (0<=o.n)&&decide (o.n<=4)&&decide (0<=o.v)&&decide (o.v<=255)&&decide (o.cases.length<=6)
theorem DB(o:cu):yF o=(mI o&&(il o.ai||decide (o.ch=0))&&(kD o.ai||decide (o.v=0))&&(decide (o.ai=1)||decide (o.n=0))&&(decide (o.ai=9)||(!o.dG&&decide (o.cases.length=0)))&&o.cases.all qg):=rfl
theorem Bb(o:cu)(a:am)(c:Nat)(w:World)(n:Nat)(d:n=o.cases)(b:mI o=false):gt 42 #[.agg #[o.ai,o.ch,o.n,o.v,(a,n,c),o.dG]] w (eL (.bool (yF o)) (Below w w)):=by
 have e:yF o=false:=by rw[DB,b];rfl
 rw[e];have h:(((((((o.ai<1\/9<o.ai)\/o.ch<0)\/8<o.ch)\/o.n<0)\/4<o.n)\/o.v<0)\/255<o.v)\/6<(n:Int):=by grind [mI]
 clear b d e;go_enter func42,ntmps42;go_wp2_with fail
 all_goals first|(exfalso;omega)|(go_ret;exact⟨ii,(fp).alloc cG _⟩)
theorem Mk(o:cu)(i:o.ai=9)(a:am)(c:Nat)(w:World)(h:gW w a o.cases)(n:Nat)(j:n=o.cases)(l:mI o)(r:o.ch=0)(s:o.v=0)(t:o.n=0):gt 42 #[.agg #[o.ai,o.ch,o.n,o.v,(a,n,c),o.dG]] w (eL (.bool (yF o)) (Below w w)):=by
 have e:yF o=o.cases.all qg:=by rw[DB,l,i,r,s,t];simp
 rw[e,i,r,s,t];obtain⟨g,u⟩:=dC (o.cases);rw[<-u]at h j ⊢;have E:n<=6:=by unfold mI at l;simp at l;rw[j,u];omega
 have F:decide (6<(n:Int))=false:=ci8
 obtain⟨H,HN⟩:=dA h j;clear h j l i r s t e u;go_enter func42,ntmps42;go_wp2_with (first|(go_at_call 75;refine(sq).mono ?_;rintro e G ⟨rfl,rfl⟩)|(go_at_call 76;refine(uc).mono ?_;rintro e G ⟨rfl,rfl⟩));go_loopw [97] (λq wr=>∃k:Nat,q=.int .i64 k/\k<=n/\Hid ((g.take k).all qg=true)/\Hid (Below w w wr)) (λq _=>n-(intOf q).toNat)
 case atStart=>exact⟨0,ii,oX,(by simp:(g.take 0).all qg=true),(fp).alloc cG _⟩
 obtain⟨k,rfl,i,z,m⟩:=hrel;by_cases dD:k<n
 .obtain⟨d,p⟩:∃d,g[k]?=some d:=⟨_,fv cn4⟩;obtain⟨b,off,rfl,A,c1,c2,c3⟩:=(H.out.below m cG).2 k d p;have C:d∈g:=lf p;have tK:Hid (Below w w (wr.alloc (.cells #[B d.cF,I d.ch,I d.v] 52))):=m.out.alloc m.out.size _;by_cases f:qg d=true
  .have nx:Hid ((g.take (k+1)).all qg=true):=by
    grind [List.take_succ]
   unfold qg at f;obtain⟨x,J,v⟩:=d;simp only[qs,lm,ay2]at f A c1 c2;obtain⟨⟨⟨⟨D,K⟩,L⟩,M⟩,g5⟩:=f;clear c3 p C z
   cases x
   .have y:v=0:=(by simpa using g5);subst y;exact ce3
   exact ce3
  have D:Hid (g.all qg=false):=by show _=_;grind
  unfold qg at f;obtain⟨x,J,v⟩:=d;simp only[qs,lm,ay2]at f A c1 c2;clear c3 p C z
  cases x
  .go_wp2
   all_goals first
    |(go_ret;exact⟨by rw[D.out];rfl,tK⟩)
    |(exfalso;simp at f;rename_i y _;simp at y;omega)
    |(exfalso;simp at f;rename_i y;simp at y;omega)
    |skip
  go_wp2
  all_goals first
   |(go_ret;exact⟨by rw[D.out];rfl,tK⟩)
   |(exfalso;simp at f;omega)
   |skip
 obtain rfl:k=n:=oX
 have nx:Hid (g.all qg=true):=by grind [Hid.out]
 go_wp2;go_ret;exact⟨by rw[nx.out];rfl,m⟩
theorem Ml(o:cu)(hk:o.ai=1\/o.ai=2\/o.ai=3\/o.ai=4\/o.ai=5\/o.ai=6\/o.ai=7\/o.ai=8)(a:am)(c:Nat)(w:World)(n:Nat)(b:n=o.cases)(hr:mI o):gt 42 #[.agg #[o.ai,o.ch,o.n,o.v,(a,n,c),o.dG]] w (eL (.bool (yF o)) (Below w w)):=by
 rcases hk with hk|hk|hk|hk|hk|hk|hk|hk
 all_goals
  have e:yF o=((il o.ai||decide (o.ch=0))&&(kD o.ai||decide (o.v=0))&&(decide (o.ai=1)||decide (o.n=0))&&(!o.dG&&decide (n=0))):=by
   rw[DB,hr,hk,b]
   cases t:o.cases with
   |nil=>simp
   |cons x l=>simp
  rw[e,hk];have k:n<=6:=by unfold mI at hr;simp at hr;rw[b];omega
  have m:decide (6<(n:Int))=false:=ci8
  obtain⟨u,y,z,A,B,C,D,E,F,G,H,I,J,K,L,M⟩:il 1=false/\il 2=true/\il 3=true/\il 4=true/\il 5=true/\il 6=true/\il 7=true/\il 8=true/\kD 1=false/\kD 2=true/\kD 3=false/\kD 4=true/\kD 5=false/\kD 6=false/\kD 7=false/\kD 8=false:=dX
  obtain⟨N,d⟩:=dC (o.dG);rw[<-d];have p:=ag hr;have f:0<=o.ch/\o.ch<=8/\0<=o.n/\o.n<=4/\0<=o.v/\o.v<=255:=cu8
  obtain⟨O,g⟩:=dC (o.ch);obtain⟨Q,i⟩:=dC (o.n);obtain⟨v,j⟩:=dC (o.v);rw[<-g,<-i,<-j]at f ⊢;obtain⟨R,S,T,U,W,X⟩:=f;clear hr b hk e d g i j p;go_enter func42,ntmps42;go_wp2_with (first|(go_at_call 75;refine(sq).mono ?_;rintro e r ⟨rfl,rfl⟩)|(go_at_call 76;refine(uc).mono ?_;rintro e r ⟨rfl,rfl⟩))
  all_goals first
   |(exfalso;omega)
   |(go_ret;refine⟨?_,(fp).alloc cG _⟩;first|(simp_all;done)|(simp_all;omega))
   |(obtain rfl:n=0:=by omega
     go_loopw [97] (λq wr=>q=.int .i64 0/\Hid (Below w w wr)) (λ_ _=>0)
     case atStart=>exact⟨ii,(fp).alloc cG _⟩
     obtain⟨rfl,s⟩:=hrel
     go_wp2
     go_ret
     refine⟨?_,s⟩
     simp_all
     done)