import Derived.Test.YtadifmnmfnihdaaGreatA12
import Derived.Test.YtadifmnmfnihdaaGreatA19
set_option linter.all false
set_option maxRecDepth 100000
set_option maxHeartbeats 40000000
namespace Go.Proofs.YtadifmnmfnihdaaGreat
open Go.RowKit Mach Go.Proofs.Tryz
variable{v f w' w2:World}{a:Value}{b n z p X cp:Nat}{G:Fx}{D Q:Mem}{t:Wd}{F us:dl}{A:am}{e:bI}{N:ap}
def Px(w:World)(a:bv)(k:Nat):Prop:=w<=k/\k ∉ a
def glT(S:Wd):List (bI×Int×Bool):=S.gs.mapIdx λj x=>(x,bU S.ax j,token S.ax j)
def llS(S:Wd):ce:=(List.range S.au).map λ(k:Nat)=>owner S.aq k
abbrev Ze(S:Wd)(a b c d e f g:Option Addr)(h i l m n o p j k q:Nat):Array Value:=#[S.dV,S.eT,S.av,(a,j,h),(b,k,i),(c,S.ah.length,l),(d,q,m),(e,S.Eg.aK.length,n),S.Eg.cO,(f,S.UB.length,o),S.drawn,(g,S.done.length,p)]
theorem Own.aV{α:Type}{E:nR α}{e:TypeId}{P:Nat->Prop}{v:Value}{c:List α}(h:Own E e P f w' w2 v c){g:Nat}(a:v.ownBlock=g):w'<=g/\∃d,w2.heap[g]?=some (.cells d e (0,0)):=by
 obtain⟨_,_,_,_,h⟩:=h;rcases h.2 with⟨b,_⟩|⟨l,cap,i,b,j,k,_⟩
 .rw[b]at a;cases a
 rw[b]at a;cases a;exact⟨j,_,k⟩
def ab1(t e:TypeId)(n:Nat):Prop:=prog.underlying t=some (.slice e)/\((prog.info? e).bind λi=>i.zero.map λz=>(i.size,z.cells.size,decide (i.bytes<=1000)))=(n,n,true)
theorem ab1.out{t e:TypeId}(h:ab1 t e n):∃i z,prog.info? e=some i/\i.zero=some z/\i.size=n/\i.bytes<=1000/\z.cells.size=n:=by
 obtain⟨_,h⟩:=h
 cases b:prog.info? e with
 |none=>rw[b]at h;cases h
 |some i=>
  rw[b]at h
  cases a:i.zero with
  |none=>simp[a]at h
  |some z=>simp[a]at h;exact⟨i,z,ii,a,h.1,h.2.2,h.2.1⟩
theorem WR{α:Type}{E:nR α}{P:Nat->Prop}{wF w0:World}{xs:List α}{o:Oper}{a:Act}{K:Act->World->Prop}{Q:Exit->Act->World->Prop}(s x:Operand)(t e:TypeId)(m:o.op=.call {callee:=.builtin .append,args:=#[s,x],argTypes:=#[t,t]})(T:ab1 t e E.n)(I:0<E.n){v:Value}(J:a.eval s=v)(L:n=xs)(H:Own E e P wF w0 f v xs){t2:TypeId}{M:Nat×Nat}(N:a.eval x=(b,1,z))(O:f.heap[b]?=some (.cells us t2 M)){y:α}(A:E.F P wF y us.toList)(R:xs.length<1000000)(h:∀(p:Nat) q B,Own E e P wF w0 B (p,n+1,q) (xs++[y])->(v.ownBlock=p\/p=f)->(∀k o,v.ownBlock≠some k->f.heap[k]?=some o->B.heap[k]?=o)->K (a.put o.dst (.slice p (n+1) q)) B):o.wp prog a f K Q:=by
 subst L;obtain⟨i,c,S,U,r,w,W⟩:=T.out;obtain⟨C,_,l,X,d⟩:=H;have Y:OC E P wF [y] [us.toList]:=⟨ii,λk x cs r w=>by cases k<;>simp at r w;subst r w;exact A⟩;refine wp_append_lies f s x t m w0.heap.size e i c E.n i.bytes T.1 S U r ii W I v xs.length l.flatten J d ⟨b,0,none⟩ 1 z us.toList N (by rw[Nat.one_mul];exact E.len A) (λj u Z=>by rw[aj9,wl,cr O];simpa using Z) (E.one A) dX cj7 (jm (at0 (show xs.length+1<=1000000 from R) w) dX) C.size _ ii λg q w' a1 G a3 _=>?_
 refine h g q w' ⟨Below.grown C G C.size λk D=>(d.lt k D).1,ci8,l++[us.toList],X.app Y,?_⟩ a3 λk o D m=>(G.block k (dh m).1 λe=>D e.symm).trans m
 rw[aU7,ax9];simpa using a1
structure SL(S:Wd)(w wr:World)(bx:Nat)(ga ha sa ca ma da xa:am)(gc hc sc cc mc dc xc j k q:Nat)(ex:bv):Prop where
 lw:kL w wr
 box:wr.heap[bx]?=some (.cells (Ze S ga ha sa ca ma da xa gc hc sc cc mc dc xc j k q) 41 (0,0))
 g:Own gF 100 (Px w ex) wr w wr (ga,j,gc) ((glT S).take j)
 h:Own lkE 59 (Px w ex) wr w wr (ha,k,hc) ((llS S).take k)
 c:Own caE 28 (Px w ex) wr w wr (ca,q,cc) (S.Eg.aC.take q)
 s:ix sdE (Px w ex) wr sa S.ah
 d:ix zA (Px w ex) wr xa S.done
 x0:bx∈ex
 x1:∀b,(Value.slice ga j gc).ownBlock=some b\/(Value.slice ha k hc).ownBlock=b\/(Value.slice ca q cc).ownBlock=b->b∈ex
 x2:∀e∈ex,e<wr
 xb:w<=bx
section
variable{S:Wd}{w wr:World}{bx:Nat}{ga ha sa ca ma da xa:am}{gc hc sc cc mc dc xc j k q:Nat}{ex:bv}
theorem SL.later(H:SL S w wr bx ga ha sa ca ma da xa gc hc sc cc mc dc xc j k q ex)(l:kL wr w'):SL S w w' bx ga ha sa ca ma da xa gc hc sc cc mc dc xc j k q ex:=by
 have b:=H.lw.trans l;have a:∀{α:Type} {E:nR α} {e:TypeId} {v:Value} {f:List α},Own E e (Px w ex) wr w wr v f->Own E e (Px w ex) w' w w' v f:=λh=>(h.toF (λ_ _ h=>h) l.ER).keep b λg _ i _=>Below.block l g i
 exact⟨b,kL.heap l H.box,a H.g,a H.h,a H.c,H.s.later l,H.d.later l,H.x0,H.x1,λe m=>uB (H.x2 e m) l.size,H.xb⟩
section
variable(H:SL S w wr bx ga ha sa ca ma da xa gc hc sc cc mc dc xc j k q ex){β:Type}{E2:nR β}{e2:TypeId}{P2:Nat->Prop}{ys:List β}(hr:Own E2 e2 P2 f w wr a ys)
include H hr
theorem SL.ab3(c:41≠e2){o:Obj}(e:∀b d,a.ownBlock≠some b->(wr.alloc o).heap[b]?=some d->w2.heap[b]?=d):w2.heap[bx]?=some (.cells (Ze S ga ha sa ca ma da xa gc hc sc cc mc dc xc j k q) 41 (0,0)):=
 e bx _ (λh=>by
  obtain⟨_,g,h⟩:=hr.aV h;rw[H.box]at h
  cases h;exact c ii) ((gf _ _ _ (H.x2 _ H.x0)).trans H.box)
theorem SL.frame(B:∀b,a.ownBlock=some b->b∈ex){o:Obj}(l:∀b C,a.ownBlock≠some b->(wr.alloc o).heap[b]?=some C->w2.heap[b]?=C)(O:kL w w2){i:Nat}{Q:Nat->Prop}{m:World}{R:List β}(T:Own E2 e2 Q m w w2 (n,p,z) R)(U:a.ownBlock=n\/wr<=n)(d:41≠e2){v:Value}:kL w (w2.setCell (bx,i) v)/\wr<=w2.heap.size/\(∀k,k<wr.heap.size->Px w ex k->Px w (n::ex) k)/\aV2 (Px w (n::ex)) wr (w2.setCell (bx,i) v)/\(∀{α:Type} {E:nR α} {e:TypeId} {u:Value} {s:List α},Own E e (Px w ex) wr w wr u s->e≠e2->41≠e->Own E e (Px w (n::ex)) (w2.setCell (bx,i) v) w (w2.setCell (bx,i) v) u s)/\(w2.setCell (bx,i) v).heap[bx]?=some (.cells ((Ze S ga ha sa ca ma da xa gc hc sc cc mc dc xc j k q).setIfInBounds i v) 41 (0,0))/\(∀e∈n::ex,e<(w2.setCell (bx,i) v).heap.size)/\n≠bx:=by
 have D:kL w (w2.setCell ⟨bx,i,none⟩ v):=Gv O H.xb v;have X:∀b,b<wr.heap.size->(wr.alloc o).heap[b]?=wr.heap[b]?:=λb c=>gf _ _ _ c
 have F:wr.heap.size<=w2.heap.size:=by have:=l wr.heap.size o (λh=>by obtain⟨_,G,h⟩:=hr.aV h;have:=(dh h).1;omega) (aA4);exact ay5 (dh this).1
 have I:∀k,k<wr.heap.size->Px w ex k->Px w (n::ex) k:=λk t h1=>⟨h1.1,λh2=>by
  rcases iL.1 h2 with rfl|h2
  .rcases U with h|h
   .exact h1.2 (B _ h)
   omega
  exact h1.2 h2⟩
 have t:∀b,b<wr.heap.size->b≠bx->a.ownBlock≠some b->(w2.setCell ⟨bx,i,none⟩ v).heap[b]?=wr.heap[b]?:=λb c h1 h2=>by rw[fQ cm9,xL c];exact l b _ h2 ((X b c).trans (xL c))
 have J:aV2 (Px w (n::ex)) wr (w2.setCell ⟨bx,i,none⟩ v):=⟨by simpa[World.setCell]using F,λb c K=>t b c (λh=>K.2 (by rw[h];exact nO _ H.x0)) λh=>K.2 (nO _ (B b h))⟩;have x:=H.ab3 hr d l;obtain⟨q1,Y,L⟩:=T.aV (g:=n) ii
 have Z:n≠bx:=λh=>by
  subst h;rw[L]at x
  cases x;exact d ii
 refine⟨D,F,I,J,λ{α E e u s} h cM y=>?_,?_,λe A=>?_,Z⟩
 .refine(h.toF I J).keep D λb h1 h2 M=>t b h2 (λc=>?_) λc=>?_
  .obtain⟨_,G,h⟩:=h.aV M;rw[c,H.box]at h;cases h;exact y ii
  obtain⟨_,G,h⟩:=h.aV M;obtain⟨_,a0,N⟩:=hr.aV c;rw[h]at N;cases N;exact cM ii
 .exact ms _ bx i _ 41 v x
 rcases iL.1 A with rfl|A
 .simpa[World.setCell]using(dh L).1
 have:=H.x2 e A;simp[World.setCell];omega
end
section
variable(H:SL S w wr bx ga ha sa ca ma da xa gc hc sc cc mc dc xc j k q ex){o:Obj}
include H
theorem SL.Oz{m:List (bI×Int×Bool)}(x:n=j+1)(a:m=(glT S).take (j+1))(e:Own gF 100 (Px w ex) wr w w2 (z,n,p) m)(y:∀b r,(Value.slice ga j gc).ownBlock≠some b->(wr.alloc o).heap[b]?=some r->w2.heap[b]?=r)(A:(Value.slice ga j gc).ownBlock=z\/wr<=z):SL S w (w2.setCell (bx,3) (z,n,p)) bx z ha sa ca ma da xa p hc sc cc mc dc xc (j+1) k q (z::ex):=by
 subst x a;obtain⟨t,F,f,l,u,B,C,D⟩:=H.frame H.g (λb h=>H.x1 b (.inl h)) y e.1 e A dX (i:=3) (v:=.slice (some ⟨z,0,none⟩) (j+1) p);refine⟨t,B,(e.toF f l).keep t λb G I E=>fQ ?_,u H.h dX dX,u H.c dX dX,(H.s.mono dX f).Ur l,(H.d.mono dX f).Ur l,nO _ H.x0,λb h=>?_,C,H.xb⟩
 .cases E;simpa using D
 rcases h with h|h
 .cases h;exact rn
 exact nO _ (H.x1 b (.inr h))
theorem SL.OB{m:ce}(x:n=k+1)(a:m=(llS S).take (k+1))(e:Own lkE 59 (Px w ex) wr w w2 (z,n,p) m)(y:∀b r,(Value.slice ha k hc).ownBlock≠some b->(wr.alloc o).heap[b]?=some r->w2.heap[b]?=r)(A:(Value.slice ha k hc).ownBlock=z\/wr<=z):SL S w (w2.setCell (bx,4) (z,n,p)) bx ga z sa ca ma da xa gc p sc cc mc dc xc j (k+1) q (z::ex):=by
 subst x a;obtain⟨t,F,f,l,u,B,C,D⟩:=H.frame H.h (λb h=>H.x1 b (.inr (.inl h))) y e.1 e A dX (i:=4) (v:=.slice (some ⟨z,0,none⟩) (k+1) p);refine⟨t,B,u H.g dX dX,(e.toF f l).keep t λb G I E=>fQ ?_,u H.c dX dX,(H.s.mono dX f).Ur l,(H.d.mono dX f).Ur l,nO _ H.x0,λb h=>?_,C,H.xb⟩
 .cases E;simpa using D
 rcases h with h|h|h
 .exact nO _ (H.x1 b (.inl h))
 .cases h;exact rn
 exact nO _ (H.x1 b (.inr (.inr h)))
theorem SL.OA{m:List ce}(x:n=q+1)(a:m=S.Eg.aC.take (q+1))(e:Own caE 28 (Px w ex) wr w w2 (z,n,p) m)(y:∀b r,(Value.slice ca q cc).ownBlock≠some b->(wr.alloc o).heap[b]?=some r->w2.heap[b]?=r)(A:(Value.slice ca q cc).ownBlock=z\/wr<=z):SL S w (w2.setCell (bx,6) (z,n,p)) bx ga ha sa z ma da xa gc hc sc p mc dc xc j k (q+1) (z::ex):=by
 subst x a;obtain⟨t,F,f,l,u,B,C,D⟩:=H.frame H.c (λb h=>H.x1 b (.inr (.inr h))) y e.1 e A dX (i:=6) (v:=.slice (some ⟨z,0,none⟩) (q+1) p);refine⟨t,B,u H.g dX dX,u H.h dX dX,(e.toF f l).keep t λb G I E=>fQ ?_,(H.s.mono dX f).Ur l,(H.d.mono dX f).Ur l,nO _ H.x0,λb h=>?_,C,H.xb⟩
 .cases E;simpa using D
 rcases h with h|h|h
 .exact nO _ (H.x1 b (.inl h))
 .exact nO _ (H.x1 b (.inr (.inl h)))
 cases h;exact rn
end
end
section
variable{w:World}
theorem j9{b c:Nat}(h:b≠c):∀(a:bi) (o:Nat) (w:World),(w.setCells c o a).heap[b]?=w.heap[b]?
 | [],_,_=>rfl
 |v::a,o,w=>by rw[World.setCells,j9 h a];exact fQ ck0
theorem rk{b:Nat}:∀(a:bi) (o:Nat) (w:World),(w.setCells b o a).heap.size=w
 | [],_,_=>rfl
 |v::a,o,w=>by rw[World.setCells,rk a];simp[World.setCell]
theorem Own.rdC{α:Type}{E:nR α}{e:TypeId}{P:Nat->Prop}{w f:World}{d:List α}(h:Own E e P w' f w (A,n,b) d)(k:∀g,(Value.slice A n b).ownBlock=some g->P g/\w'.heap[g]?=w.heap[g]?):ix E P w' A d:=by
 obtain⟨u,l,a,o,h2⟩:=h;refine⟨l,a,o,λp=>?_⟩;rcases h2.2 with⟨_,c⟩|⟨g,cap,q,c,x,y⟩
 .exact aX (xn c) p
 cases c;obtain⟨r,s⟩:=k g ii;refine⟨g,0,ii,r,λj v hj=>?_⟩;have i:=bN2;rw[aj9]at i;rw[kZ (w:=w) s];exact i
theorem SL.start{H I W:World}{q r d:am}{i J K:Nat}{s:List fE}{u:List Ex}(x:Own sdE 105 TT H w w' (A,J,p) s)(L:s=t.ah)(a:kL w' w2)(B:Own zA 46 TT I w w2 (d,K,i) u)(M:u=t.done)(y:kL w w2)(l:kL w W)(N:w<=n)(O:∀b,b<w2.heap.size->b≠n->W.heap[b]?=w2.heap[b]?)(R:∀j a T,w2.heap[n]?=some (.cells j a T)->a=41)(c:W.heap[n]?=some (.cells (Ze t none none A none q r d 0 0 p 0 X cp i 0 0 0) 41 (0,0))):SL t w W n none none A none q r d 0 0 p 0 X cp i 0 0 0 [n]:=by
 subst L M
 have row:∀{α:Type} {E:nR α} {e:TypeId} {U Y:World} {v:Value} {Z:List α},Own E e TT U w Y v Z->41≠e->kL Y w2->∀g,v.ownBlock=some g->Px w [n] g/\W.heap[g]?=Y.heap[g]?:=λh k l g hg=>by
  obtain⟨YA,j,h⟩:=h.aV hg;have o:=(dh h).1;have C:g≠n:=λe=>k (R j _ _ (by rw[<-e,Below.block l g o];exact h)).symm
  exact⟨⟨YA,by simpa using C⟩,(O g (uB o l.size) C).trans (Below.block l g o)⟩
 refine⟨l,c,Own.nil l,Own.nil l,Own.nil l,Own.rdC (E:=sdE) (w:=w') (P:=Px w [n]) (show Own sdE 105 (Px w [n]) W w w' _ _ from x) (row x dX a),Own.rdC (E:=zA) (P:=Px w [n]) (show Own zA 46 (Px w [n]) W w w2 _ _ from B) (row B dX (kb _)),sX,(λb h=>by rcases h with h|h|h<;>cases h),λe he=>?_,N⟩;obtain rfl:=ae6.1 he;exact(dh c).1
theorem SL.ab7{j:World}{d e c:am}{k l:Nat}{g:List fE}{i:List Ex}(o:Own sdE 105 TT w2 w v (A,k,n) g)(q:g=t.ah)(a:kL v w')(r:Own zA 46 TT j w w' (c,l,cp) i)(s:i=t.done)(y:kL w w'):SL t w (w'.alloc (.cells (Ze t none none A none d e c 0 0 n 0 p X cp 0 0 0) 41)) w' none none A none d e c 0 0 n 0 p X cp 0 0 0 [w']:=
 SL.start o q a r s y (ah9 y _) y.size (λb h _=>gf _ _ _ h) (λu a x h=>by have:=(dh h).1;omega) (aA4)
theorem SL.ab8{l:World}{e g c:am}{d o q:Nat}{i:List fE}{j:List Ex}(r:Own sdE 105 TT w2 w v (A,o,p) i)(s:i=t.ah)(a:kL v w')(u:Own zA 46 TT l w w' (c,q,d) j)(B:j=t.done)(y:kL w w')(k:w<=n)(C:us.size=12)(x:w'.heap[n]?=some (.cells us 41 (0,0))):SL t w ((((((((((((w'.setCell n t.dV).setCell (n,1) t.eT).setCell (n,2) t.av).setCell (n,3) ()).setCell (n,4) ()).setCell (n,5) (A,t.ah.length,p)).setCell (n,6) ()).setCell (n,7) (e,t.Eg.aK.length,X)).setCell (n,8) t.Eg.cO).setCell (n,9) (g,t.UB.length,cp)).setCell (n,10) t.drawn).setCell (n,11) (c,t.done.length,d)) n none none A none e g c 0 0 p 0 X cp d 0 0 0 [n]:=
 SL.start (W:=w'.setCells n 0 (Ze t none none A none e g c 0 0 p 0 X cp d 0 0 0).toList) r s a u B y (Below.setCells k _ _ _ y) k (λb _ h=>j9 h _ _ _) (λE a H h=>by rw[x]at h;cases h;rfl) (dI x (by rw[C];rfl))
end
section
variable{w:World}{S:Wd}
theorem ac3:XS 37 105 7:=⟨by kernel_rfl,by kernel_rfl⟩
theorem ac4:XS 25 240 1:=⟨by kernel_rfl,by kernel_rfl⟩
theorem ab9:XS 39 46 13:=⟨by kernel_rfl,by kernel_rfl⟩
theorem ac5:ab1 35 100 25:=⟨by kernel_rfl,by kernel_rfl⟩
theorem ac6:ab1 36 59 6:=⟨by kernel_rfl,by kernel_rfl⟩
theorem ac7:ab1 38 28 1:=⟨by kernel_rfl,by kernel_rfl⟩
theorem ad0(R:bz z G w D S)(hx:S.gs[b]?=e)(c:CY e.ops/\e.aH.length<=1000/\e.aq.length<=1000/\e.bA.length<=1000/\e.OK.length<=1000):∃A:dl,A.size=25/\A.all (·.oneCell')/\(∀(q:Nat) v,A[q]?=some v->w.cell? (G.gs,b*25+q)=v)/\∀W,kL w W->gt 49 #[.agg A] W λa i=>∃f,a=Value.agg f/\f.size=25/\f.all (·.oneCell')/\(∀j k (P:Nat->Prop) n,(∀d,aV2 P n d->lO W i d)->gF.F P n (e,j,k) ((f.setIfInBounds 3 j).setIfInBounds 4 k).toList)/\kL W i:=by
 obtain⟨o,p,Y,B⟩:=R.Zs hx c.1;obtain⟨s,c1,Z,C⟩:=R.rdI (r:=.aH b) (xs:=e.aH) cw7 c.2.1;obtain⟨t,c2,h2,E⟩:=R.rdI (r:=.aq b) (xs:=e.aq) cw7 c.2.2.1;obtain⟨u,c3,h3,H⟩:=R.rdI (r:=.bA b) (xs:=e.bA) cw7 c.2.2.2.1;obtain⟨x,c4,h4,I⟩:=R.rdI (r:=.OK b) (xs:=e.OK) cw7 c.2.2.2.2;have J:gk D b e=(gV (e,e.bU,e.token) (.slice o e.ops.length p) (.slice s e.aH.length c1) (.slice t e.aq.length c2) (.slice u e.bA.length c3) (.slice x e.OK.length c4)).toList:=by grind [gk,yP,gV]
 refine⟨gV (e,e.bU,e.token) (.slice o e.ops.length p) (.slice s e.aH.length c1) (.slice t e.aq.length c2) (.slice u e.bA.length c3) (.slice x e.OK.length c4),ii,cv7,λq v K=>R.g hx q v (by rw[J];simpa using K),λW l=>?_⟩;refine(VY (e,e.bU,e.token) o s t u x p c1 c2 c3 c4 c.1 c.2 W (B.below l cG) (C.later l) (E.later l) (H.later l) (I.later l)).mono ?_;rintro a i ⟨L,M,N,d1,O,d2,Q,d3,T,d4,rfl,U,X⟩;exact⟨_,ii,ii,cv7,λj k P n h=>⟨L,M,N,d1,O,d2,Q,d3,T,d4,by simp[gV,yP],λd y=>U d (h d y)⟩,X⟩
theorem ab4{α:Type}(Z A:Array α)(h:Z.size=n)(hA:A.size=n):Array.foldl (λa (x:α×Nat)=>a.setIfInBounds x.2 x.1) Z A.zipIdx 0 n=A:=by
 subst hA
 have key:∀(l:List α) (k:Nat) (Z:Array α),Z.size=k+l.length->(l.zipIdx k).foldl (λa (x:α×Nat)=>a.setIfInBounds x.2 x.1) Z=(Z.toList.take k++l).toArray:=λl=>by
  induction l with
  |nil=>intro k Z h;simp at h;subst h;rw[show Z.size=Z.toList.length from ii,aj3];simp
  |cons v l ih=>
   intro k Z h;rw[List.zipIdx_cons,bH4,ih (k+1) _ (by simp at h ⊢;omega)];simp at h;have b:k<Z.size:=oX;simp[as4,sW,List.take_set_of_le,b]
 have:=key A.toList 0 Z ck0;rw[<-Array.size_zipIdx (xs:=A) (k:=0),<-Array.foldl_toList];simpa using this
def Bx(a:World)(b:Nat)(V:dl)(W:World):Prop:=kL a W/\W.heap[b]?=some (.cells V 41 (0,0))
theorem Bx.later{V:dl}(h:Bx v b V f)(l:kL f w'):Bx v b V w':=⟨h.1.trans l,kL.heap l h.2⟩
theorem Bx.drew{a W:World}{b:Nat}{V:dl}(h:Bx a b V W):Bx a b V W.drew:=h.later (m8 (kb _))
theorem Bx.alloc{a W:World}{b:Nat}{V:dl}(h:Bx a b V W)(o:Obj):Bx a b V (W.alloc o):=h.later (ah9 (kb _) o)
theorem Bx.cell{V:dl}(h:Bx v b V f):f.cell? (b,n)=V[n]?:=cr h.2
theorem ab5(a:S.gs[b]?=e):(glT S).take b++[(e,bU S.ax b,token S.ax b)]=(glT S).take (b+1):=by
 rw[al6,show(glT S)[b]?=some (e,bU S.ax b,token S.ax b)by simp[glT,as7,a]];rfl
theorem Zr{α:Type}{l:List α}{x:α}(a:l[b]?=x):l.take b++[x]=l.take (b+1):=by
 rw[al6,a];rfl
theorem ab6(h:b<S.au):(llS S)[b]?=owner S.aq b:=by
 unfold llS;rw[na,bI9 h];rfl
theorem WS(S:Wd):(glT S).length=S.gs:=by simp[glT]
def Fr(w:World)(k:Nat):Prop:=w<=k
structure St2(S:Wd)(w w':World)(ga ha sa ca xa:am):Prop where
 l:kL w w'
 g:ix gF (Fr w) w' ga (glT S)
 h:ix lkE (Fr w) w' ha (llS S)
 c:ix caE (Fr w) w' ca S.Eg.aC
 s:ix sdE (Fr w) w' sa S.ah
 d:ix zA (Fr w) w' xa S.done
theorem aa8(R:bz z G w D S)(hs:tc S N):gt 26 #[G.aQ] w λe J=>∃Z ha sa ca ma da xa gc X sc cc mc dc xc,e=Value.agg (Ze S Z ha sa ca ma da xa gc X sc cc mc dc xc S.gs S.au S.gs)/\St2 S w J Z ha sa ca xa/\(S.au.length=0->ha=none/\X=0):=by
 have Ap:=ag R;have T:=ag hs;clear R;go_enter func26,ntmps26;go_upto_region 1 with fail
 generalize hW:World.alloc w _=W1;obtain⟨L0,S1,_,jc⟩:=bN5;have R:=Ap.out.below L0;have H0:=ag (dO L0 S1);have L1:=kb W1;obtain⟨rs,vY⟩:∃b,b=w.heap.size:=⟨_,ii⟩;rw[<-vY]at jc ⊢;have ZW:=ag vY;clear hW S1 L0 Ap vY;have Y:Hid (∀W,kL W1 W->bz z G W D S):=λW h=>R.below h
 obtain⟨a1,k1,h1,r1⟩:=R.rdE (E:=sdE) (r:=.ah) (xs:=S.ah) (bd2 (λ_ _=>rfl) S.ah 0) (PY _ λ_=>rfl) dX (by have:=hs.Rw;omega);obtain⟨a2,k2,h2,r2⟩:=R.rdE (E:=ac0) (r:=.UB) (xs:=S.UB) (VV U S.UB) (PY _ λ_=>rfl) dX (by have:=hs.UB;omega);obtain⟨a3,k3,h3,r3⟩:=R.rdE (E:=zA) (r:=.done) (xs:=S.done) (bd2 (λ_ _=>rfl) S.done 0) (PY _ λ_=>rfl) dX (by have:=hs.done;omega);obtain⟨n1,xS⟩:∃n,n=S.ah.length:=⟨_,ii⟩;obtain⟨n2,RH⟩:∃n,n=S.UB.length:=⟨_,ii⟩;obtain⟨n3,Ym⟩:∃n,n=S.done.length:=⟨_,ii⟩;have c0:∀W,kL W1 W->W.cell? ⟨G.aQ,0,none⟩=some (I S.dV):=λW h=>(R.below h).cW 0 rfl
 have c1:∀W,kL W1 W->W.cell? ⟨G.aQ,1,none⟩=some (I S.eT):=λW h=>(R.below h).cW 1 rfl
 have c2:∀W,kL W1 W->W.cell? ⟨G.aQ,2,none⟩=some (I S.av):=λW h=>(R.below h).dM
 have c9:∀W,kL W1 W->W.cell? ⟨G.aQ,9,none⟩=some (.slice a1 n1 k1):=λW h=>by rw[xS,<-h1];exact(R.below h).cW 9 rfl
 have Fq:∀W,kL W1 W->W.cell? ⟨G.aQ,10,none⟩=some (.pointer (some ⟨G.Eg,0,none⟩)):=λW h=>(R.below h).tf
 have ao:∀W,kL W1 W->W.cell? ⟨G.aQ,11,none⟩=some (.pointer (some ⟨G.gN,0,none⟩)):=λW h=>(R.below h).Us
 have ar:∀W,kL W1 W->W.cell? ⟨G.aQ,12,none⟩=some (.slice a2 n2 k2):=λW h=>by rw[RH,<-h2];exact(R.below h).Vo
 have V2:∀W,kL W1 W->W.cell? ⟨G.aQ,13,none⟩=some (.slice a3 n3 k3):=λW h=>by rw[Ym,<-h3];exact(R.below h).NF
 have a9:Hid (∀W,kL W1 W->gt 46 #[.pointer (some ⟨G.Eg,0,none⟩)] W λe J=>∃a c,e=.returned (.slice a S.Eg.aK.length c)/\kL W J):=λW h=>(ET (R.below h) hs.mid).mono λe J ⟨a,c,h1,_,h2,_⟩=>⟨a,c,h1,h2⟩
 have UG:Hid (∀W,kL W1 W->gt 47 #[.pointer (some ⟨G.Eg,0,none⟩)] W λe J=>e=.returned (I S.Eg.cO)/\W=J):=λW h=>Ic (R.below h)
 have GN:Hid (∀W,kL W1 W->gt 48 #[.pointer (some ⟨G.gN,0,none⟩)] W λe J=>e=.returned (I S.drawn)/\W=J):=λW h=>EV (R.below h)
 have CZ:=ag (dO r1 (dO r2 r3));have HN:=ag (dO xS (dO RH Ym));clear R hs h1 h2 h3 r1 r2 r3 xS RH Ym;go_cut [3]from 8 to 46 (λx wx=>∃bx sa sc ma mc da dc xa xc,x=.pointer (some ⟨bx,0,none⟩)/\Hid (SL S W1 wx bx none none sa none ma da xa 0 0 sc 0 mc dc xc 0 0 0 [bx]))
 case first=>
  have KZ:∀(W:World) b,W.heap[b]?=some (.cells #[I 0,I 0,I 0,.slice none 0 0,.slice none 0 0,.slice none 0 0,.slice none 0 0,.slice none 0 0,I 0,.slice none 0 0,I 0,.slice none 0 0] 41 (0,0))->∀q,q<12->W.cell? ⟨b,q,none⟩=(#[I 0,I 0,I 0,.slice none 0 0,.slice none 0 0,.slice none 0 0,.slice none 0 0,.slice none 0 0,I 0,.slice none 0 0,I 0,.slice none 0 0]:dl)[q]?:=λW b h q _=>cr h
  have FZ:∀(W:World) b,W.heap[b]?=some (.cells #[I 0,I 0,I 0,.slice none 0 0,.slice none 0 0,.slice none 0 0,.slice none 0 0,.slice none 0 0,I 0,.slice none 0 0,I 0,.slice none 0 0] 41 (0,0))->∀q,W.frozen? ⟨b,q,none⟩=false:=λW b h q=>iM _ _ _ h
  go_region_held3 (λW=>kL W1 W) (repeat(first|with_reducible exact kb _|with_reducible exact L1|with_reducible exact y4|with_reducible exact y3|with_reducible exact y2|with_reducible exact y1|with_reducible refine m8 ?_|with_reducible refine ah9 ?_ _|refine Gv ?_ y3.size _|refine Gv ?_ y2.size _|refine Gv ?_ y4.size _|refine Gv ?_ y1.size _|refine Gv ?_ L1.size _))
   (first
    |(refine aX6 ii (aX5 (E:=sdE) (P:=TT) (wF:=W1) (w1:=W1) (xs:=[]) (ys:=S.ah) (.const (.slice none 0 0)) (.tmp 19) 37 105 rfl ac3 dX ii (Own.nil (kb _)) ii HN.out.1 CZ.out.1 (kL.ER cl2) (by have:=T.out.Rw;simp;omega) ?_);intro v1 Y1 H5 O;obtain⟨s1,q1,rfl⟩:=bN8;have l1:=H5.1;have o:=ag (Own.down (w:=W1) H5 cl2);clear H5 O;have y1:kL W1 Y1:=o.out.1;(first|have p:=kL.heap l1 C|have p:=kL.heap l1 f|have p:=kL.heap l1 H|have p:=kL.heap l1 (aA4)|have p:=kL.heap l1 (heap_drew (aA4))|skip))
    |(refine aX6 ii (aX5 (E:=ac0) (P:=TT) (wF:=W1) (w1:=W1) (xs:=[]) (ys:=S.UB) (.const (.slice none 0 0)) (.tmp 34) 25 240 rfl ac4 dX ii (Own.nil (kb _)) ii HN.out.2.1 (CZ.out.2.1) (kL.ER cl3) (by have:=T.out.UB;simp;omega) ?_);intro v2 Y2 H5 O;obtain⟨s2,q2,rfl⟩:=bN8;have l2:=H5.1;have OJ:=ag (Own.down (w:=W1) H5 cl3);clear H5 O;have y2:kL W1 Y2:=OJ.out.1;(first|have C:=kL.heap l2 p|have C:=kL.heap l2 f|have C:=kL.heap l2 H|have C:=kL.heap l2 (aA4)|have C:=kL.heap l2 (heap_drew (aA4))|skip))
    |(refine aX6 ii (aX5 (E:=zA) (P:=TT) (wF:=W1) (w1:=W1) (xs:=[]) (ys:=S.done) (.const (.slice none 0 0)) (.tmp 44) 39 46 rfl ab9 dX ii (Own.nil (kb _)) ii HN.out.2.2 (CZ.out.2.2) (kL.ER cl4) (by have:=T.out.done;simp;omega) ?_);intro v3 Y3 H5 O;obtain⟨s3,q3,rfl⟩:=bN8;have l3:=H5.1;have Q:=ag (Own.down (w:=W1) H5 cl4);clear H5 O;have y3:kL W1 Y3:=Q.out.1;(first|have f:=kL.heap l3 p|have f:=kL.heap l3 C|have f:=kL.heap l3 H|have f:=kL.heap l3 (aA4)|have f:=kL.heap l3 (heap_drew (aA4))|skip))
    |(go_at_call 46;refine(a9.out _ cl5).mono ?_;rintro e Y4 ⟨s4,q4,rfl,M⟩;have y4:kL W1 Y4:=kL.trans cl5 M;(first|have H:=kL.heap M p|have H:=kL.heap M C|have H:=kL.heap M f|have H:=kL.heap M (aA4)|have H:=kL.heap M (heap_drew (aA4))|skip))
    |(go_at_call 47;refine(UG.out _ ck6).mono ?_;rintro e Y5 ⟨rfl,rfl⟩)
    |(go_at_call 48;refine(GN.out _ ck6).mono ?_;rintro e Y6 ⟨rfl,rfl⟩))
  all_goals
   go_wp2_with fail
   have t:kL Y1 Y3:=by refine kL.trans ?_ l3;repeat(first|with_reducible exact kb _|with_reducible refine ah9 ?_ _|with_reducible refine kL.trans ?_ l2|with_reducible refine kL.trans ?_ M)
   go_meet;refine⟨_,s1,q1,s4,q4,s2,q2,s3,q3,ii,ag ?_⟩
   first
    |with_reducible exact SL.ab7 o.out (al0 _) t Q.out (al0 _) y3
    |((with_reducible refine SL.ab8 o.out (al0 _) t Q.out (al0 _) y3 ?_ ?_ f);(first|exact y2.size|exact y4.size|exact y1.size|exact L1.size);rfl)
 obtain⟨bx,sa,sc,ma,mc,da,dc,xa,xc,rfl,a4⟩:=hcut;obtain⟨f,hN⟩:∃n,n=S.gs.length:=⟨_,ii⟩;have Ke:=ag hN;have b1:f<=100:=by rw[hN];exact T.out.gs
 have C3:Hid (∀W,kL W1 W->W.cell? ⟨G.aQ,3,none⟩=some (.slice (some ⟨G.gs,0,none⟩) f (D.cap .gs))):=λW h=>by rw[Ke.out];exact(Y W h).eu
 have c3:=C3.out _ a4.out.lw;clear hN c0 c1 c2 c9 Fq ao ar V2 a9 UG GN CZ HN;go_wp2_with fail
 go_loopw [52] (λi wr=>∃(j:Nat) (Z:am) (gc:Nat) (ca:am) (cc:Nat) (ex:bv),i=.int .i64 j/\j<=f/\Hid (SL S W1 wr bx Z none sa ca ma da xa gc 0 sc cc mc dc xc j 0 j ex)) (λi _=>f-(intOf i).toNat)
 case atStart=>exact⟨0,none,0,none,0,_,ii,oX,a4⟩
 clear a4 c3;obtain⟨j,Z,gc,ca,cc,ex,rfl,hj,M⟩:=hrel;have c3:=C3.out _ M.out.lw;by_cases dD:j<f
 .obtain⟨x,hx⟩:∃x,S.gs[j]?=some x:=⟨_,fv (by rw[<-Ke.out];exact dD)⟩;obtain⟨A,ab,ad,hg,cR⟩:=ad0 (Y.out _ M.out.lw) hx (T.out.gor j x hx);have KX:=ag ab;have ri:=ag ad;have ae:=ag hg;have tP:=ag cR;have HX:=bL7;clear ab ad hg cR hx;go_upto_region 4 with fail
  repeat(fail_if_success (refine wpList_load_mid ii 100 (.tmp 55) ii G.gs (j*25) ii A ?_ ?_ ?_ ?_));go_step
  refine wpList_load_mid ii 100 (.tmp 55) ii G.gs (j*25) ii A ae cQ.1 cq0 ?_;repeat(fail_if_success (refine df ii 100 (.tmp 5) (.tmp 56) ii wr.heap.size ii A ii ii ?_ ?_ ?_ ?_));go_step
  refine df ii 100 (.tmp 5) (.tmp 56) ii wr.heap.size ii A ii ii cq0 (by rw[KX.out];rfl) ri ?_;go_upto_region 5 with fail
  generalize hW:World.alloc wr _=w1;obtain⟨l1,s1,_,eE⟩:=bN5;obtain⟨o,Ro⟩:∃b,b=wr.heap.size:=⟨_,ii⟩;rw[<-Ro]at eE ⊢;have H1:=ag (dO l1 (dO s1 Ro));clear hW Ro c3 l1 s1 ae;refine as8 ?_;refine wpList_load_mid ii 100 (.tmp 5) ii o 0 rfl A (λq v hq=>by rw[wl,cr eE.out];exact hq) cQ.1 cq0 ?_
  go_wp2_with (first
   |(go_at_call 49;refine(tP _ H1.out.1).mono ?_;rintro e w2 ⟨A2,rfl,Lf,SZ,jF,l2⟩;have H2:=ag (dO Lf (dO SZ (dO jF (dO l2 (kL.heap l2 eE.out)))));clear Lf SZ jF l2)
   |(refine JS ii 100 (.tmp 5) (.tmp 58) ii o 0 A2 ii ii (by rw[H2.out.1];exact cQ.2) (λq hq=>by rw[cr H2.out.2.2.2.2,wl,xL (by rw[KX.out];rw[H2.out.1]at hq;exact hq)];rfl) (λq hq=>iM _ _ _ H2.out.2.2.2.2) H2.out.2.1 ?_))
  obtain⟨w3,xY⟩:=dC (w2.setCells o 0 A2.toList);rw[<-xY];have nM:w3.heap[o]?=some (.cells A2 100 (0,0)):=by rw[xY];exact dI H2.out.2.2.2.2 (by rw[KX.out,H2.out.1])
  have l3:kL wr w3:=by rw[xY];exact Below.setCells (by rw[H1.out.2.2];exact rx _) _ _ _ (H1.out.1.trans H2.out.2.2.2.1)
  have k3:∀b,b≠o->w3.heap[b]?=w2.heap[b]?:=λb hb=>by rw[xY];exact j9 (dE hb ∘ Eq.symm) _ _ _
  have z3:w3.heap.size=w2.heap.size:=by rw[xY];exact rk _ _ _
  have H3:=ag (dO nM (dO k3 z3));have Ro:wr.heap.size<=o:=by have:=H1.out.2.2;omega
  have y3:w3.cell? ⟨o,3,none⟩=some (A2[3]'(by rw[H2.out.1];decide)):=by rw[cr nM];exact xL _
  have y4:w3.cell? ⟨o,4,none⟩=some (A2[4]'(by rw[H2.out.1];decide)):=by rw[cr nM];exact xL _
  have aw:=iM w3 o 3 nM;have ay:=iM w3 o 4 nM;have c4:∀W,kL wr W->W.cell? ⟨G.aQ,4,none⟩=some (.pointer (some ⟨G.dB,0,none⟩)):=λW h=>(Y W (M.out.lw.trans h)).nJ
  have pI:Hid (∀W,kL wr W->gt 50 #[.pointer (some ⟨G.dB,0,none⟩),I j] W λe J=>e=.returned (I (bU S.ax j))/\W=J):=λW h=>gZ (Y W (M.out.lw.trans h)) j
  have ai:Hid (∀W,kL wr W->gt 51 #[.pointer (some ⟨G.dB,0,none⟩),I j] W λe J=>e=.returned (.bool (token S.ax j))/\W=J):=λW h=>Ij (Y W (M.out.lw.trans h)) j
  clear xY nM k3 z3;dsimp only[Act.put];go_cut [5]from 59 to 72 (λu wx=>∃A3,u=.pointer (some ⟨o,0,none⟩)/\Hid (wx.heap[o]?=some (.cells A3 100 (0,0))/\kL wr wx/\gF.F (Px W1 ex) wx (x,bU S.ax j,token S.ax j) A3.toList))
  case first=>
   go_region_held3 (λW=>kL wr W) (repeat(first|with_reducible exact l3|with_reducible refine m8 ?_|refine Gv ?_ Ro _))
    (first
     |(go_at_call 50;refine(pI.out _ cu1).mono ?_;rintro e p ⟨rfl,rfl⟩)
     |(go_at_call 51;refine(ai.out _ cu1).mono ?_;rintro e p ⟨rfl,rfl⟩))
   go_wp2_with fail
   go_meet;refine⟨_,ii,ag ⟨ms _ o 4 _ 100 (.bool (token S.ax j)) (ms _ o 3 _ 100 (I (bU S.ax j)) H3.out.1),by repeat(first|with_reducible exact l3|with_reducible refine m8 ?_|refine Gv ?_ Ro _),H2.out.2.2.1 _ _ _ _ λH hW b q1 q2=>?_⟩⟩;have cM:b≠o:=(by have:=H1.out.2;omega);have C:=H3.out.2.2;rw[hW.2 b (by simpa[World.setCell,C]using q2) ⟨by have:=M.out.lw.size;have:=H1.out.2;omega,λh=>by have:=M.out.x2 b h;have:=H1.out.2;omega⟩];show((w3.setCell _ _).setCell _ _).heap[b]?=_;rw[fQ (by simpa using cM),fQ (by simpa using cM)];exact H3.out.2.1 b cM
  obtain⟨A3,rfl,HC⟩:=hcut;have vC:Hid (A3.size=25):=ag (gF.len HC.out.2.2);have Q:=ag (M.out.later HC.out.2.1);have b3:wc.cell? ⟨bx,3,none⟩=some (.slice Z j gc):=cr Q.out.box;clear pI ai c4 tP H1 H2 H3 y3 y4 aw ay l3 M eE;go_upto_region 7 with fail
  repeat(fail_if_success (refine wpList_load_mid ii 100 (.tmp 5) ii o 0 rfl A3 ?_ ?_ ?_ ?_));go_step
  refine wpList_load_mid ii 100 (.tmp 5) ii o 0 rfl A3 (λq v hq=>by rw[wl,cr HC.out.1];exact hq) cQ.1 (by rw[vC.out];exact cQ.2) ?_;have SZ:=vC.out;go_wp2_with ((refine ae2 ii λK O=>WR (n:=j) (E:=gF) (P:=Px W1 ex) (wF:=wc) (w0:=W1) (xs:=(glT S).take j) (y:=(x,bU S.ax j,token S.ax j)) (.tmp 74) (.tmp 76) 35 100 rfl ac5 dX ii (by have:=Ke.out;simp[WS];omega) (by exact Q.out.g.alloc _) ii cu9 (by rw[ab4 (n:=25) (hA:=vC.out)];exact HC.out.2.2;rfl) (by have:=Ke.out;simp[WS];omega) λg6 c6 w6 hO hg hk=>O _ _ ?_);have bw:=Q.out.ab3 Q.out.g dX hk;have aB:w6.cell? ⟨bx,3,none⟩=some (.slice Z j gc):=cr bw;have f36:=iM w6 bx 3 bw;have H6:=ag (dO hO (dO hg hk));clear hO hg hk bw);have Mw:=ag (Q.out.Oz ii (ab5 HX) H6.out.1 H6.out.2.2 (H6.out.2.1.imp_right λe=>by simp at e;omega));generalize World.setCell w6 _ _=w7 at Mw ⊢;clear b3 aB f36 H6 HC Q KX ri HX;obtain⟨c,X⟩:∃c,S.Eg.aC[j]?=some c:=⟨_,fv (by rw[T.out.aC,<-Ke.out];exact dD)⟩;have Yn:Hid (∀W,kL W1 W->gt 52 #[.pointer (some ⟨G.Eg,0,none⟩),I j] W λe J=>∃a cp,e=.returned (.slice a c.length cp)/\kL W J):=λW l=>(EW (Y W l) j c X (T.out.cache j c X) (by have:=T.out.gs;rw[T.out.aC];omega)).mono λe J ⟨a,cp,h1,_,h2,_⟩=>⟨a,cp,h1,h2⟩
  obtain⟨V,hV⟩:=dC (Ze S (some ⟨g6,0,none⟩) none sa ca ma da xa c6 0 sc cc mc dc xc (j+1) 0 j);have HV:=ag hV;have z7:Bx W1 bx V w7:=by rw[hV];exact⟨Mw.out.lw,Mw.out.box⟩
  have Fq:∀W,Bx W1 bx V W->W.cell? ⟨G.aQ,10,none⟩=some (.pointer (some ⟨G.Eg,0,none⟩)):=λW h=>(Y W h.1).tf
  have b2:∀W,Bx W1 bx V W->W.cell? ⟨bx,6,none⟩=some (.slice ca j cc):=λW h=>by rw[h.cell,HV.out];rfl
  have XP:=ag X;clear X hV;refine aW3.region (S:=λW=>Bx W1 bx V W) (L:=11) kX ?_;have C:=z7.drew;refine aW3.take (i:=0) (v:= ?u0) ii kX (λ_ _ _ h=>h) kX kX kX (Or.inl ⟨co0,?Wu⟩) C ?ad1
  case Wu=>(intro H p;(try dsimp only at p);go_simp;try with_reducible rfl)
  try simp only[Act.put,pu,ro,qr]
  refine aW3.take (i:=1) (v:= ?u1) ii kX (λ_ _ _ h=>h) kX kX kX (Or.inl ⟨co0,?hu1⟩) C ?ad2
  case hu1=>(intro H p;(try dsimp only at p);go_simp;try with_reducible rfl)
  try simp only[Act.put,pu,ro,qr]
  refine aW3.take (i:=2) (v:= ?u2) ii kX (λ_ _ _ h=>h) kX kX kX (Or.inl ⟨co0,?hu2⟩) C ?ad3
  case hu2=>(intro H p;(try dsimp only at p);go_simp;try with_reducible rfl)
  try simp only[Act.put,pu,ro,qr]
  refine aW3.take (i:=3) (v:= ?u3) ii kX (λ_ _ _ h=>h) kX kX kX (Or.inl ⟨co0,?hu3⟩) C ?ad4
  case hu3=>(intro H p;(try dsimp only at p);go_simp;try with_reducible rfl)
  try simp only[Act.put,pu,ro,qr]
  refine aW3.take (i:=4) (v:= ?u4) ii kX (λ_ _ _ h=>h) kX kX kX (Or.inl ⟨co0,?hu4⟩) C ?ad5
  case hu4=>(intro H p;(try dsimp only at p);go_simp;try with_reducible rfl)
  try simp only[Act.put,pu,ro,qr]
  refine aW3.take (i:=5) (v:= ?u5) ii kX (λ_ _ _ h=>h) kX kX kX (Or.inl ⟨co0,?hu5⟩) C ?ad6
  case hu5=>(intro H p;(try dsimp only at p);go_simp;try with_reducible rfl)
  try simp only[Act.put,pu,ro,qr]
  refine aW3.take (i:=6) (v:= ?u6) ii kX (λ_ _ _ h=>h) kX kX kX (Or.inl ⟨co0,?hu6⟩) C ?ad7
  case hu6=>(intro H p;(try dsimp only at p);go_simp;try with_reducible rfl)
  try simp only[Act.put,pu,ro,qr]
  repeat' first
   |(have a5:=O;clear a5
     first
      |(refine aX6 ii (WR (n:=j) (E:=caE) (P:=Px W1 (g6::ex)) (wF:=w8) (w0:=W1) (xs:=S.Eg.aC.take j) (y:=c) (.tmp 80) (.tmp 87) 38 28 rfl ac7 dX ii (by have:=Ke.out;have:=T.out.aC;simp;omega) (by exact a0.out.c.alloc _) ii cu9 (by exact⟨_,_,ii⟩) (by have:=Ke.out;simp;omega) ?_);intro g9 c9 w9 hO hg hk;have bw:=a0.out.ab3 a0.out.c dX hk;have z9:Bx W1 bx V w9:=⟨hO.1,by rw[HV.out];exact bw⟩;have f69:=iM w9 bx 6 bw;have H9:=ag (dO hO (dO hg hk));clear hO hg hk bw)
      |(go_simp
        try first
         |(go_at_call 52;refine(Yn.out _ (by refine(?_:Bx W1 bx V _).1;repeat(first|with_reducible exact z7|with_reducible refine Bx.drew ?_))).mono ?_;rintro e w8 ⟨a8,b4,rfl,l8⟩;have y8:kL w7 w8:=kL.trans (by repeat(first|with_reducible exact kb _|with_reducible refine m8 ?_)) l8;have a0:=ag (Mw.out.later y8);have z8:=z7.later y8;go_wp2_with fail))
     refine O.out _ _ (λcM=>?_) ?_
     .first
       |exact aX ii cM
       |(repeat(first|with_reducible exact z9|with_reducible exact z8|with_reducible exact z7|with_reducible refine Bx.drew ?_|with_reducible refine Bx.alloc ?_ _))
     clear O K
     try simp only[Act.put,pu,ro,qr])
   |refine aW3.ready (rs:=[7]) cj9 sX (aB2.cons ii (λK O=>?_) aB2.nil)
   |refine aW3.ready (rs:=[8]) cj9 sX (aB2.cons ii (λK O=>?_) aB2.nil)
   |refine aW3.ready (rs:=[9]) cj9 sX (aB2.cons ii (λK O=>?_) aB2.nil)
   |refine aW3.ready (rs:=[10]) cj9 sX (aB2.cons ii (λK O=>?_) aB2.nil)
   |refine aW3.ready (rs:=[11]) cj9 sX (aB2.cons ii (λK O=>?_) aB2.nil)
   |refine aW3.done kX ?_ _
  all_goals
   have a6:=ag (a0.out.OA ii (Zr XP) H9.out.1 H9.out.2.2 (H9.out.2.1.imp_right λe=>by simp at e;omega));go_wp2;go_roundw
   case rel=>exact⟨j+1,_,_,_,_,_,cj8,oX,a6⟩
   simp[intOf];omega
 obtain rfl:j=f:=oX
 obtain⟨rg,Mu⟩:∃n,n=S.au.length:=⟨_,ii⟩;have WQ:rg<=8:=by rw[Mu];exact T.out.au
 have WO:=ag Mu;obtain⟨ra,aG,Yo,_⟩:=(Y _ (kb _)).Ib (r:=.au) (n:=S.au.length) (λh=>by simp only[aj]at h;rw[at3,List.range_eq_nil]at h;exact h);have aH:=ag Yo;have C5:Hid (∀W,kL W1 W->W.cell? ⟨G.aQ,5,none⟩=some (.slice ra rg aG)):=λW hb=>by have:=(Y W hb).qx;rw[aH.out,<-WO.out]at this;exact this
 have c5:=C5.out _ M.out.lw;clear Mu Yo c3;go_wp2_with fail
 go_loopw [96] (λi wr=>∃(k:Nat) (ha:am) (X:Nat) (ex:bv),i=.int .i64 k/\k<=rg/\(k=0->ha=none/\X=0)/\Hid (SL S W1 wr bx Z ha sa ca ma da xa gc X sc cc mc dc xc j k j ex)) (λi _=>rg-(intOf i).toNat)
 case atStart=>exact⟨0,none,0,_,ii,oX,(λ_=>⟨ii,ii⟩),M⟩
 clear c5 M;obtain⟨k,ha,X,ex,rfl,hk,Ul,M⟩:=hrel;have aI:=ag Ul;clear Ul;by_cases dD:k<rg
 .obtain⟨r,hr⟩:∃r,S.au[k]?=some r:=⟨_,fv (by rw[<-WO.out];exact dD)⟩;obtain⟨rr,rb,pL,fA,c5,aJ⟩:=(Y _ M.out.lw).iJ hr;have Yo:ra=some ⟨rr,0,none⟩:=by have:=C5.out _ M.out.lw;rw[c5]at this;simp only[oZ,as9]at this;exact this.1.symm
  subst Yo;go_upto_region 13 with fail
  obtain⟨cl,cR⟩:∃b,S.aO[k]?=some b:=⟨_,fv (by rw[T.out.aO,<-WO.out];exact dD)⟩;obtain⟨cb,fP,_,_⟩:=(Y _ M.out.lw).ka cR;obtain⟨nc,JU⟩:∃n,n=S.aO.length:=⟨_,ii⟩;have TS:k<nc:=by rw[JU];exact fm cR
  have b5:nc<=8:=by rw[JU,T.out.aO,<-WO.out];exact WQ
  obtain⟨lr,IF⟩:∃l,N[2*k]?=some l:=⟨_,fv (by rw[T.out.bM];omega)⟩;obtain⟨lq,ak⟩:∃l,N[2*k+1]?=some l:=⟨_,fv (by rw[T.out.bM];omega)⟩;obtain⟨ow,a7⟩:∃n,n=owner S.aq k:=⟨_,ii⟩;obtain⟨z1,jC⟩:∃o:Int,o=((2*k:Nat):Int):=⟨_,ii⟩;obtain⟨z2,gG⟩:∃o:Int,o=((2*k+1:Nat):Int):=⟨_,ii⟩;obtain⟨V,hV⟩:=dC ((Ze S Z ha sa ca ma da xa gc X sc cc mc dc xc j k j));have z0:Bx W1 bx V wr:=by rw[hV];exact⟨M.out.lw,M.out.box⟩
  have ck:∀W,Bx W1 bx V W->W.cell? ⟨G.aQ,6,none⟩=some (.slice (some ⟨cb,0,none⟩) nc (D.cap .aO))/\W.cell? ⟨cb,k,none⟩=some (B cl):=λW h=>by obtain⟨b6,al,c6,ck⟩:=(Y W h.1).ka cR;rw[fP]at al;cases al;rw[JU];exact⟨c6,ck⟩
  have c6:=λW h=>(ck W h).1
  have ck:=λW h=>(ck W h).2
  have c7:∀W,Bx W1 bx V W->W.cell? ⟨G.aQ,7,none⟩=some (.pointer (some ⟨G.dY,0,none⟩)):=λW h=>(Y W h.1).pC
  have c8:∀W,Bx W1 bx V W->W.cell? ⟨G.aQ,8,none⟩=some (.pointer (some ⟨G.ef,0,none⟩)):=λW h=>(Y W h.1).dR
  have b7:∀W,Bx W1 bx V W->W.cell? ⟨bx,4,none⟩=some (.slice ha k X):=λW h=>by rw[h.cell,hV];rfl
  have aN:Hid (∀W,kL W1 W->gt 53 #[.pointer (some ⟨rb,0,none⟩)] W λe J=>∃n:Nat,e=.returned (I n)/\W=J):=λW l=>by obtain⟨Hw,gr,pa,pc,_,q0,_⟩:=(Y W l).eU hr;rw[fA]at gr;cases gr;exact(bb1 rb pa _ pc W q0).mono λe J h=>⟨_,h⟩
  have aR:Hid (∀W,kL W1 W->gt 54 #[.pointer (some ⟨rb,0,none⟩)] W λe J=>∃a n c,e=.returned (.slice a n c)/\kL W J):=λW l=>(Ox (Y W l) hr fA (T.out.eU r (lf hr))).mono λe J ⟨a,c,h1,_,h2,_⟩=>⟨a,_,c,h1,h2⟩
  have aU:Hid (∀W,kL W1 W->gt 55 #[.pointer (some ⟨G.dY,0,none⟩),I k] W λe J=>e=.returned (I ow)/\W=J):=λW l=>by rw[a7];exact Ih (Y W l) (k:Int)
  have b8:IntKind.i64.wrap ((k:Int)+1)=(k:Int)+1:=jX oX;have aY:Hid (∀W:World,gt 57 #[I (k+1)] W λe J=>e=.returned (I z1)/\W=J):=λW=>by have:=Ie (k+1) oX W;rw[show((k+1:Nat):Int)=(k:Int)+1 by omega,show 2*((k:Int)+1)-2=z1 by omega]at this;exact this
  have aZ:Hid (∀W:World,gt 58 #[I (k+1)] W λe J=>e=.returned (I z2)/\W=J):=λW=>by have:=Ig (k+1) oX W;rw[show((k+1:Nat):Int)=(k:Int)+1 by omega,show 2*((k:Int)+1)-1=z2 by omega]at this;exact this
  have HQ:∀W n l,kL W1 W->N[n]?=some l->gt 56 #[.pointer (some ⟨G.ef,0,none⟩),I (n:Nat)] W λe J=>∃a n c,e=.returned (.slice a n c)/\kL W J:=λW n l h hn=>(yN (Y W h) T.out.q n l hn (T.out.line l (lf hn)) (by rw[T.out.q.len,T.out.bM];omega) T.out.aS).mono λe J ⟨a,c,h1,_,h2,_⟩=>⟨a,_,c,h1,h2⟩
  have b0:Hid (∀W o,kL W1 W->(o=z1\/o=z2)->gt 56 #[.pointer (some ⟨G.ef,0,none⟩),I o] W λe J=>∃a n c,e=.returned (.slice a n c)/\kL W J):=λW o h e=>by
   rcases e with rfl|rfl
   .rw[jC];exact HQ W _ _ h IF
   rw[gG];exact HQ W _ _ h ak
  have HW:=ag (dO hV a7);have XO:=ag dD;clear HQ hV a7 jC gG IF ak JU cR hr fA fP c5 aJ pL;refine aW3.region (S:=λW=>Bx W1 bx V W) (L:=39) kX ?_;have C:=z0.drew;refine aW3.take (i:=0) (v:= ?v0) ii kX (λ_ _ _ h=>h) kX kX kX (Or.inl ⟨co0,?J2⟩) C ?ax1
  case J2=>(intro H p;(try dsimp only at p);go_simp;try with_reducible rfl)
  try simp only[Act.put,pu,ro,qr]
  refine aW3.take (i:=1) (v:= ?v1) ii kX (λ_ _ _ h=>h) kX kX kX (Or.inl ⟨co0,?NW⟩) C ?ax2
  case NW=>(intro H p;(try dsimp only at p);go_simp;try with_reducible rfl)
  try simp only[Act.put,pu,ro,qr]
  refine aW3.take (i:=2) (v:= ?v2) ii kX (λ_ _ _ h=>h) kX kX kX (Or.inl ⟨co0,?rN⟩) C ?ax3
  case rN=>(intro H p;(try dsimp only at p);go_simp;try with_reducible rfl)
  try simp only[Act.put,pu,ro,qr]
  refine aW3.take (i:=4) (v:= ?v4) ii kX (λ_ _ _ h=>h) kX kX kX (Or.inl ⟨co0,?hy4⟩) C ?aG5
  case hy4=>(intro H p;(try dsimp only at p);go_simp;try with_reducible rfl)
  try simp only[Act.put,pu,ro,qr]
  refine aW3.take (i:=6) (v:= ?v6) ii kX (λ_ _ _ h=>h) kX kX kX (Or.inl ⟨co0,?hy6⟩) C ?aG6
  case hy6=>(intro H p;(try dsimp only at p);go_simp;try with_reducible rfl)
  try simp only[Act.put,pu,ro,qr]
  refine aW3.take (i:=7) (v:= ?v7) ii kX (λ_ _ _ h=>h) kX kX kX (Or.inl ⟨co0,?hy7⟩) C ?aG7
  case hy7=>(intro H p;(try dsimp only at p);go_simp;try with_reducible rfl)
  try simp only[Act.put,pu,ro,qr]
  refine aW3.take (i:=8) (v:= ?v8) ii kX (λ_ _ _ h=>h) kX kX kX (Or.inl ⟨co0,?hy8⟩) C ?aG8
  case hy8=>(intro H p;(try dsimp only at p);go_simp;try with_reducible rfl)
  try simp only[Act.put,pu,ro,qr]
  refine aW3.take (i:=9) (v:= ?v9) ii kX (λ_ _ _ h=>h) kX kX kX (Or.inl ⟨co0,?hy9⟩) C ?aG9
  case hy9=>(intro H p;(try dsimp only at p);go_simp;try with_reducible rfl)
  try simp only[Act.put,pu,ro,qr]
  refine aW3.take (i:=10) (v:= ?v10) ii kX (λ_ _ _ h=>h) kX kX kX (Or.inl ⟨co0,?aC6⟩) C ?aC7
  case aC6=>(intro H p;(try dsimp only at p);go_simp;try with_reducible rfl)
  try simp only[Act.put,pu,ro,qr]
  refine aW3.take (i:=11) (v:= ?v11) ii kX (λ_ _ _ h=>h) kX kX kX (Or.inl ⟨co0,?aC8⟩) C ?aC9
  case aC8=>(intro H p;(try dsimp only at p);go_simp;try with_reducible rfl)
  try simp only[Act.put,pu,ro,qr]
  refine aW3.take (i:=12) (v:= ?v12) ii kX (λ_ _ _ h=>h) kX kX kX (Or.inl ⟨co0,?aD0⟩) C ?aD1
  case aD0=>(intro H p;(try dsimp only at p);go_simp;try with_reducible rfl)
  try simp only[Act.put,pu,ro,qr]
  refine aW3.take (i:=13) (v:= ?v13) ii kX (λ_ _ _ h=>h) kX kX kX (Or.inl ⟨co0,?aD2⟩) C ?aD3
  case aD2=>(intro H p;(try dsimp only at p);go_simp;try with_reducible rfl)
  try simp only[Act.put,pu,ro,qr]
  refine aW3.take (i:=14) (v:= ?v14) ii kX (λ_ _ _ h=>h) kX kX kX (Or.inl ⟨co0,?ap4⟩) C ?aD4
  case ap4=>(intro H p;(try dsimp only at p);go_simp;try with_reducible rfl)
  try simp only[Act.put,pu,ro,qr]
  refine aW3.take (i:=15) (v:= ?v15) ii kX (λ_ _ _ h=>h) kX kX kX (Or.inl ⟨co0,?aD5⟩) C ?aD6
  case aD5=>(intro H p;(try dsimp only at p);go_simp;try with_reducible rfl)
  try simp only[Act.put,pu,ro,qr]
  refine aW3.take (i:=16) (v:= ?v16) ii kX (λ_ _ _ h=>h) kX kX kX (Or.inl ⟨co0,?aD7⟩) C ?aD8
  case aD7=>(intro H p;(try dsimp only at p);go_simp;try with_reducible rfl)
  try simp only[Act.put,pu,ro,qr]
  refine aW3.take (i:=17) (v:= ?v17) ii kX (λ_ _ _ h=>h) kX kX kX (Or.inl ⟨co0,?aD9⟩) C ?aE0
  case aD9=>(intro H p;(try dsimp only at p);go_simp;try with_reducible rfl)
  try simp only[Act.put,pu,ro,qr]
  refine aW3.take (i:=19) (v:= ?v19) ii kX (λ_ _ _ h=>h) kX kX kX (Or.inl ⟨co0,?aE1⟩) C ?aE2
  case aE1=>(intro H p;(try dsimp only at p);go_simp;try with_reducible rfl)
  try simp only[Act.put,pu,ro,qr]
  refine aW3.take (i:=20) (v:= ?v20) ii kX (λ_ _ _ h=>h) kX kX kX (Or.inl ⟨co0,?aE3⟩) C ?aE4
  case aE3=>(intro H p;(try dsimp only at p);go_simp;try with_reducible rfl)
  try simp only[Act.put,pu,ro,qr]
  refine aW3.take (i:=21) (v:= ?v21) ii kX (λ_ _ _ h=>h) kX kX kX (Or.inl ⟨co0,?aE5⟩) C ?aE6
  case aE5=>(intro H p;(try dsimp only at p);go_simp;try with_reducible rfl)
  try simp only[Act.put,pu,ro,qr]
  refine aW3.take (i:=22) (v:= ?v22) ii kX (λ_ _ _ h=>h) kX kX kX (Or.inl ⟨co0,?aE7⟩) C ?aE8
  case aE7=>(intro H p;(try dsimp only at p);go_simp;try with_reducible rfl)
  try simp only[Act.put,pu,ro,qr]
  refine aW3.take (i:=23) (v:= ?v23) ii kX (λ_ _ _ h=>h) kX kX kX (Or.inl ⟨co0,?aE9⟩) C ?aF0
  case aE9=>(intro H p;(try dsimp only at p);go_simp;try with_reducible rfl)
  try simp only[Act.put,pu,ro,qr]
  refine aW3.take (i:=24) (v:= ?v24) ii kX (λ_ _ _ h=>h) kX kX kX (Or.inl ⟨co0,?aF1⟩) C ?aF2
  case aF1=>(intro H p;(try dsimp only at p);go_simp;try with_reducible rfl)
  try simp only[Act.put,pu,ro,qr]
  refine aW3.take (i:=27) (v:= ?v27) ii kX (λ_ _ _ h=>h) kX kX kX (Or.inl ⟨co0,?aF3⟩) C ?aF4
  case aF3=>(intro H p;(try dsimp only at p);go_simp;try with_reducible rfl)
  try simp only[Act.put,pu,ro,qr]
  refine aW3.take (i:=28) (v:= ?v28) ii kX (λ_ _ _ h=>h) kX kX kX (Or.inl ⟨co0,?aF5⟩) C ?aF6
  case aF5=>(intro H p;(try dsimp only at p);go_simp;try with_reducible rfl)
  try simp only[Act.put,pu,ro,qr]
  refine aW3.take (i:=29) (v:= ?v29) ii kX (λ_ _ _ h=>h) kX kX kX (Or.inl ⟨co0,?aF7⟩) C ?aF8
  case aF7=>(intro H p;(try dsimp only at p);go_simp;try with_reducible rfl)
  try simp only[Act.put,pu,ro,qr]
  refine aW3.take (i:=30) (v:= ?v30) ii kX (λ_ _ _ h=>h) kX kX kX (Or.inl ⟨co0,?aF9⟩) C ?aG0
  case aF9=>(intro H p;(try dsimp only at p);go_simp;try with_reducible rfl)
  try simp only[Act.put,pu,ro,qr]
  refine aW3.take (i:=31) (v:= ?v31) ii kX (λ_ _ _ h=>h) kX kX kX (Or.inl ⟨co0,?aG1⟩) C ?aG2
  case aG1=>(intro H p;(try dsimp only at p);go_simp;try with_reducible rfl)
  try simp only[Act.put,pu,ro,qr]
  refine aW3.take (i:=32) (v:= ?v32) ii kX (λ_ _ _ h=>h) kX kX kX (Or.inl ⟨co0,?aG3⟩) C ?aG4
  case aG3=>(intro H p;(try dsimp only at p);go_simp;try with_reducible rfl)
  try simp only[Act.put,pu,ro,qr]
  repeat' first
   |(have a5:=O;clear a5
     first
      |(refine aX6 ii (WR (n:=k) (E:=lkE) (P:=Px W1 ex) (wF:=wb) (w0:=W1) (xs:=(llS S).take k) (y:=ow) (.tmp 102) (.tmp 137) 36 59 rfl ac6 dX ii (by have:=WO.out;simp[llS];omega) (by exact Q.out.h.alloc _) ii cu9 (by exact⟨_,_,_,_,_,_,_,_,_,_,_,ii⟩) (by have:=WO.out;simp[llS];omega) ?_);intro g9 c9 w9 hO hg hk;have bw:=Q.out.ab3 Q.out.h dX hk;have z9:Bx W1 bx V w9:=⟨hO.1,by rw[HW.out.1];exact bw⟩;have f49:=iM w9 bx 4 bw;have H9:=ag (dO hO (dO hg hk));clear hO hg hk bw)
      |(go_simp
        try first
         |(go_at_call 53;refine(aN.out _ cj3).mono ?_;rintro e wx ⟨np,rfl,rfl⟩;go_wp2_with fail)
         |(go_at_call 54;refine(aR.out _ cj3).mono ?_;rintro e wa ⟨a1,n1,c1,rfl,la⟩;have ya:kL wr wa:=kL.trans cp3 la;have za:=z0.later ya;go_wp2_with fail)
         |(go_at_call 55;refine(aU.out _ cj3).mono ?_;rintro e wx ⟨rfl,rfl⟩;go_wp2_with fail)
         |(go_at_call 57;refine(aY _).mono ?_;rintro e wx ⟨rfl,rfl⟩;go_wp2_with fail)
         |(go_at_call 58;refine(aZ _).mono ?_;rintro e wx ⟨rfl,rfl⟩;go_wp2_with fail)
         |(go_at_call 56;refine(b0.out _ _ cj3 (by first|exact .inl rfl|exact .inr rfl)).mono ?_;rintro e wb ⟨a2,n2,c2,rfl,lb⟩;have yb:kL wr wb:=kL.trans cp3 lb;have zb:=z0.later yb;have Q:=ag (M.out.later yb);go_wp2_with fail))
     refine O.out _ _ (λcM=>?_) ?_
     .first
       |exact aX ii cM
       |(repeat(first|with_reducible exact z9|with_reducible exact zb|with_reducible exact za|with_reducible exact z0|with_reducible refine Bx.drew ?_|with_reducible refine Bx.alloc ?_ _))
     clear O K
     try simp only[Act.put,pu,ro,qr])
   |refine aW3.ready (rs:=[3]) cj9 sX (aB2.cons ii (λK O=>?_) aB2.nil)
   |refine aW3.ready (rs:=[5]) cj9 sX (aB2.cons ii (λK O=>?_) aB2.nil)
   |refine aW3.ready (rs:=[18]) cj9 sX (aB2.cons ii (λK O=>?_) aB2.nil)
   |refine aW3.ready (rs:=[25]) cj9 sX (aB2.cons ii (λK O=>?_) aB2.nil)
   |refine aW3.ready (rs:=[26]) cj9 sX (aB2.cons ii (λK O=>?_) aB2.nil)
   |refine aW3.ready (rs:=[33]) cj9 sX (aB2.cons ii (λK O=>?_) aB2.nil)
   |refine aW3.ready (rs:=[34]) cj9 sX (aB2.cons ii (λK O=>?_) aB2.nil)
   |refine aW3.ready (rs:=[35]) cj9 sX (aB2.cons ii (λK O=>?_) aB2.nil)
   |refine aW3.ready (rs:=[36]) cj9 sX (aB2.cons ii (λK O=>?_) aB2.nil)
   |refine aW3.ready (rs:=[37]) cj9 sX (aB2.cons ii (λK O=>?_) aB2.nil)
   |refine aW3.ready (rs:=[38]) cj9 sX (aB2.cons ii (λK O=>?_) aB2.nil)
   |refine aW3.ready (rs:=[39]) cj9 sX (aB2.cons ii (λK O=>?_) aB2.nil)
   |refine aW3.done kX ?_ _
  all_goals
   have a6:=ag (Q.out.OB ii (Zr (by rw[HW.out.2];exact ab6 (by rw[<-WO.out];exact XO))) H9.out.1 H9.out.2.2 (H9.out.2.1.imp_right λe=>by simp at e;omega));go_wp2;go_roundw
   case rel=>exact⟨k+1,_,_,_,cj8,oX,(λh=>oX),a6⟩
   simp[intOf];omega
 obtain rfl:k=rg:=oX
 have wH:Hid (∀(q:Nat) v,(Ze S Z ha sa ca ma da xa gc X sc cc mc dc xc j k j)[q]?=some v->wr.cell? ⟨bx,0+q,none⟩=some v):=λq v hv=>by rw[wl,cr M.out.box];exact hv
 have o:=ag (kL.heap M.out.lw jc);go_upto_region 15 with fail
 refine as8 ?_;refine wpList_load_mid ii 41 (.tmp 3) ii bx 0 rfl (Ze S Z ha sa ca ma da xa gc X sc cc mc dc xc j k j) wH nQ.1 nQ.2 ?_;refine JS ii 41 (.tmp 2) (.tmp 141) ii rs 0 (Ze S Z ha sa ca ma da xa gc X sc cc mc dc xc j k j) ii ii nQ.2 (λq hq=>by rw[wl,cr o.out,xL (show q<12 from hq)];rfl) (λq hq=>iM _ _ _ o) cj0 ?_;go_wp2;refine bj2 ii ii (cs:=(Ze S Z ha sa ca ma da xa gc X sc cc mc dc xc j k j)) (dI o ii) nQ ?_;have hj:=Ke.out;have jO:=WO.out;subst hj jO;have l9:aV2 (Px W1 ex) wr (wr.setCells rs 0 (Ze S Z ha sa ca ma da xa gc X sc cc mc dc xc S.gs.length S.au.length S.gs.length).toList):=⟨by rw[rk];exact rx _,λb _ hp=>j9 (λe=>by have:=hp.1;have:=H0.out.2;have:=ZW.out;omega) _ _ _⟩;have row:∀{α:Type} {E:nR α} {e:TypeId} {a:am} {n c:Nat} {xs:List α},Own E e (Px W1 ex) wr W1 wr (.slice a n c) xs->ix E (Fr w) (wr.setCells rs 0 (Ze S Z ha sa ca ma da xa gc X sc cc mc dc xc S.gs.length S.au.length S.gs.length).toList) a xs:=λh=>Own.rdC (w:=wr) ((h.toF (λ_ _ h=>h) l9).toF (λ_ _ h=>jm H0.out.1.size h.1) (kb _).ER) λg hg=>⟨jm H0.out.1.size (h.aV hg).1,j9 (λe=>by have:=(h.aV hg).1;have:=H0.out.2;have:=ZW.out;omega) _ _ _⟩
 have rg:=row M.out.g;have rh:=row M.out.h;have rc:=row M.out.c;rw[yl (by simp[WS])]at rg;rw[yl (by simp[llS])]at rh;rw[yl (by rw[T.out.aC];exact rx _)]at rc;exact⟨Z,ha,sa,ca,ma,da,xa,gc,X,sc,cc,mc,dc,xc,ii,⟨Below.setCells (at4 ZW.out.symm) _ _ _ (H0.out.1.trans M.out.lw),rg,rh,rc,(M.out.s.Ur l9).mono dX λ_ _ h=>jm H0.out.1.size h.1,(M.out.d.Ur l9).mono dX λ_ _ h=>jm H0.out.1.size h.1⟩,aI⟩
end
variable{Pb:Nat->Prop}{v0 v1 v2 vg vh vs v6 v7 v8 v9 v10 vd:Value}
theorem bx1{P:Value->Prop}{x:nP}(a:F[15]?=I x.aJ)(b:F[16]?=I x.case)(c:F[17]?=I x.v)(d:F[18]?=B x.ok)(e:F[19]?=I x.n):∀q v,(NX x)[q]?=some v->F[15+q]?=some v:=λq v f=>by
 grind
section
variable(gl:List (bI×Int))(ga:am)(gc:Nat)(w:World)(H:ix gE Pb w ga gl){u:bI×Int}(hu:gl[z]?=u)
include gl ga gc w H hu
theorem bl4:gt 189 #[Uo v0 v1 v2 (ga,gl.length,gc) vh vs v6 v7 v8 v9 v10 vd,I z,I 0] w λe o=>e=Value.agg (LM (qu u.1 z 0))/\kL w o:=by
 have p:=H.1;have r:=um hu;obtain⟨b,off,A,rfl,i,R⟩:=aZ8 H hu;have HG:=ag i;obtain⟨m,j⟩:∃n,n=gl.length:=⟨_,ii⟩;rw[<-j]at p r ⊢;have s:=ag R;clear H hu i R j;go_enter func189,ntmps189;go_upto_region 1 with fail
 generalize hW:World.alloc (World.alloc w _) _=a;obtain⟨L,S,⟨J,_⟩,⟨K,M⟩,k⟩:=aa0 hW;have t:=ag S;clear hW S;have l:=s.out a L
 go_upto_region 2 with(first
  |(refine wpList_load_mid ii 100 (.tmp 11) ii b (off+z*25) ii A l cQ.1 cj6 ?_)
  |(refine df ii 100 (.tmp 7) (.tmp 12) ii a ii A ii ii cj6 co1 HG.out.one ?_))
 generalize hW:World.alloc a _=c;obtain⟨f,S2,⟨d,_⟩,_⟩:=bN5;have x:=HG.out.size;have N:∀W,kL c W->W.cell? (a.heap.size,1)=I u.1.at_:=λW h=>(d W h 1 oX).trans HG.out.at_
 have O:∀W,kL c W->W.cell? (a.heap.size,5)=I u.1.call:=λW h=>(d W h 5 oX).trans HG.out.call
 have y:∀W,kL c W->W.cell? (a.heap.size,11)=I u.1.bJ:=λW h=>(d W h 11 oX).trans HG.out.ar
 have B:∀W,kL c W->W.cell? (a.heap.size,12)=I u.1.lQ:=λW h=>(d W h 12 oX).trans HG.out.pt
 have C:∀W,kL c W->W.cell? (a.heap.size,13)=I u.1.bF:=λW h=>(d W h 13 oX).trans HG.out.wi
 have D:∀W,kL c W->W.cell? (a.heap.size,14)=I u.1.fire:=λW h=>(d W h 14 oX).trans HG.out.fi
 have E:Hid (∀q v,(NX u.1.res)[q]?=some v->c.cell? ⟨a.heap.size,15+q,none⟩=some v):=λq v F=>by have h:=bx1 (P:=λ_=>True) HG.out.r0 HG.out.r1 HG.out.r2 HG.out.r3 HG.out.r4 q v F;grind [kb]
 have Q:=ag (kL.heap f k);have G:=L.trans f;have T:w.heap.size<a.heap.size:=by have:=t.out;omega
 clear hW d x l S2;go_wp2_with (refine wpList_load_mid ii 44 (.tmp 27) ii a 15 rfl (NX u.1.res) E.out bu0.1 bu0.2 ?_);refine bj2 ii ii (ba6 (kL.heap f k)) bu5 ?_;exact⟨ii,bc1 G (aj5 _)⟩
theorem bl5:gt 127 #[Uo v0 v1 v2 (ga,gl.length,gc) vh vs v6 v7 v8 v9 v10 vd,I z,I 0] w λe b=>e=Value.agg (LM (qu u.1 z 0))/\kL w b:=by
 have k:=H.1;have c:Hid (∀W v,v=Uo v0 v1 v2 (ga,gl.length,gc) vh vs v6 v7 v8 v9 v10 vd->kL w W->gt 189 #[v,I z,I 0] W λe b=>e=Value.agg (LM (qu u.1 z 0))/\kL W b):=λW v f a=>by rw[f];exact bl4 gl ga gc W (H.later a) hu
 clear H hu;obtain⟨m,d⟩:=dC (qu u.1 z 0);rw[<-d]at c ⊢;clear d;go_enter func127,ntmps127;go_upto_region 1 with fail
 generalize a:World.alloc (World.alloc w _) _=l;obtain⟨L,S,⟨n,_⟩,⟨o,p⟩,i⟩:=aa0 a;clear a S;go_wp2_with (go_at_call 189;refine(c _ _ cj4 L).mono ?_;rintro e q ⟨rfl,l3⟩;have j:=bN7);refine bj2 ii ii (ba6 (kL.heap l3 i)) bu5 ?_;exact⟨ii,bc1 j (aj5 _)⟩
end
variable{Pb:Nat->Prop}{v0 v1 v2 vg vh vs v6 v7 v8 v9 v10 vd:Value}
theorem bl6:XS 39 46 13:=⟨by kernel_rfl,by kernel_rfl⟩
def MkS(a:List (bI×Int))(b:List Ex)(j:Nat)(m:Ex):Prop:=m∈b\/∃(g:Nat) (u:bI×Int),g<j/\a[g]?=u/\u.1.call≠0/\m=qu u.1 g 0
theorem bn8(f:List (bI×Int))(q:List Ex)(ga da:am)(gc dc:Nat)(p w:World)(H:ix gE Pb w ga f)(HD:ix zA Pb w da q)(hF:kL p w)(hl:q+f.length<=900100)(hp:∀u∈f,u.1.ae≠2/\u.1.ae≠3)(hP:∀k,w.heap.size<=k->Pb k):gt 68 #[Uo v0 v1 v2 (ga,f.length,gc) vh vs v6 v7 v8 v9 v10 (da,q.length,dc)] w λe D=>∃a c l,e=.returned (a,List.length l,c)/\(∀m,m∈l↔MkS f q f m)/\l<=q+f.length/\Own zA 46 Pb p w D (.slice a l c) l:=by
 have RH:=H.1;have Ym:=HD.1;obtain⟨HH,a9,ab,a0⟩:=ia H HD hp hP;have ad:Hid (∀(g:Nat) u W v,v=Uo v0 v1 v2 (ga,f.length,gc) vh vs v6 v7 v8 v9 v10 (da,q.length,dc)->kL w W->f[g]?=some u->gt 127 #[v,I g,I 0] W λe D=>e=Value.agg (LM (qu u.1 g 0))/\kL W D):=λg u W v hv hW U=>by rw[hv];exact bl5 f ga gc W (H.later hW) U
 obtain⟨Q,hQ⟩:∃Q:Ending->World->Prop,Q=λe D=>∃a c l,e=.returned (.slice a (List.length l) c)/\(∀m,m∈l↔MkS f q f.length m)/\l.length<=q.length+f.length/\Own zA 46 Pb p w D (.slice a l.length c) l:=⟨_,ii⟩
 have HQ:Hid (∀a c l D,(∀m,m∈l↔MkS f q f m)->l.length<=q.length+f.length->Own zA 46 Pb p w D (.slice a (List.length l) c) l->Q (Value.slice a l c) D):=λa c l D h1 h2 h3=>by rw[hQ];exact⟨a,c,l,ii,h1,h2,h3⟩
 rw[<-hQ];clear hQ H HD hp hP;go_enter func68,ntmps68;go_upto_region 1 with fail
 generalize hW:World.alloc w _=N;obtain⟨L,S,⟨K1,_⟩,_⟩:=bN5;clear hW S;go_upto_region 3 with(refine ae2 ii λK hK=>aX5 (E:=zA) (P:=Pb) (wF:=p) (w0:=N) (w1:=w) (xs:=[]) (ys:=q) (.tmp 14) (.tmp 16) 39 46 rfl bl6 dX ii (by exact Own.ofE sX (aA4) cG) ii ii (by exact a9) (kL.ER ct1) ci8 λv1 W5 H5 O=>hK _ _ ?_;obtain⟨a1,c1,rfl⟩:=bN8;have l5:=H5.1;have X:=ag H5;clear H5 O)
 go_loopw [3,4,5,6,21] (λv _ _ _ i wr=>∃(j:Nat) (a:am) (c n:Nat) (o:List Ex),j<=f.length/\i=.int .i64 j/\v=.slice a n c/\n<=q.length+j/\kL N wr/\Hid (n=o.length/\(∀m,m∈o↔MkS f q j m)/\Own zA 46 Pb p N wr v o)) (λ_ _ _ _ i _=>f.length-(intOf i).toNat)
 case atStart=>exact⟨0,_,_,_,q,wn _,ii,ii,sX,l5,sX,λm=>by unfold MkS;simp,by have h:=X.out;rw[al0]at h;exact h⟩
 obtain⟨j,a,c,n,o,hj,rfl,rfl,au,hb,M⟩:=hrel;by_cases dD:j<f.length
 .obtain⟨u,U⟩:∃u,f[j]?=some u:=⟨_,fv dD⟩;have HT:Hid (∀m,MkS f q (j+1) m↔MkS f q j m\/u.1.call≠0/\m=qu u.1 j 0):=λm=>by grind [MkS]
  obtain⟨b,off,A,rfl,GG,R⟩:=aZ8 HH U;have HG:=ag GG;have HU:=ag U;have XR:=ab.out u (lf U);have R2:=R wr (L.trans hb);clear U GG R
  go_upto_region 5 with(first
   |(refine wpList_load_mid ii 100 (.tmp 24) ii b (off+j*25) ii A R2 cQ.1 cj6 ?_)
   |(refine df ii 100 (.tmp 5) (.tmp 25) ii wr ii A ii ii cj6 co1 HG.out.one ?_))
  generalize hW:World.alloc wr _=C;obtain⟨L2,S2,⟨F,_⟩,HX⟩:=bN5;have G:=bN6;have b0:=L.trans G;have hz:=HG.out.size;have k2:∀W,kL C W->W.cell? ⟨wr.heap.size,2,none⟩=some (I u.1.ae):=λW h=>(F W h 2 oX).trans HG.out.pl
  have O:∀W,kL C W->W.cell? ⟨wr.heap.size,5,none⟩=some (I u.1.call):=λW h=>(F W h 5 oX).trans HG.out.call
  have Rr:Hid (Own zA 46 Pb p N C (.slice a n c) o):=by rw[<-hW];exact M.out.2.2.alloc _
  have B:=ag (dO M.out.1 M.out.2.1);clear hW F hz R2 S2 M HX;by_cases h0:u.1.call=0
  case pos=>
   go_wp2;exact⟨⟨j+1,a,c,n,o,oX,cj8,ii,oX,G,B.out.1,λm=>(B.out.2 m).trans ((HT m).trans ⟨λh=>h.elim id λh=>aX h0 h.1,.inl⟩).symm,Rr⟩,cj2⟩
  have h2:(u.1.ae==2)=false:=by simpa using XR.1
  have h3:(u.1.ae==3)=false:=by simpa using XR.2
  go_upto_region 7 with(go_at_call 127;refine(ad j u _ _ cj4 b0 HU).mono ?_;rintro e w3 ⟨rfl,J⟩)
  obtain⟨mk,T⟩:=dC (qu u.1 j 0);rw[<-T];have Y:=ag T;generalize hW:World.alloc w3 _=W4;obtain⟨Z,S4,⟨K4,_⟩,ux⟩:=bN5;have b4:=(G.trans J).trans Z;have av:=J.trans Z;have af:Hid (Own zA 46 Pb p N W4 (.slice a n c) o):=Rr.out.keep b4 λg h1 h2 _=>Below.block (J.trans Z) g h2
  clear hW T S4;go_wp2_with (refine ae2 ii λK hK=>aY0 (E:=zA) (P:=Pb) (wF:=p) (w0:=N) (xs:=o) (y:=mk) (.tmp 41) (.tmp 43) 39 46 rfl bl6 dX ii (by exact af.out.alloc _) ii cu9 cw9 (by have:=B.out.1;omega) λv1 W5 H5 O=>hK _ _ ?_;obtain⟨a1,c1,rfl⟩:=bN8;have l5:=H5.1;have X:=ag H5;clear H5 O);refine⟨⟨j+1,a1,c1,n+1,o++[mk],oX,cj8,?_,oX,l5,by simp[B.out.1],λm=>?_,by have h:=X.out;rw[aU7]at h;exact h⟩,cj2⟩
  .simp[B.out.1]
  rw[ae4,ae6,B.out.2,HT.out,Y.out];grind
 obtain rfl:j=f.length:=oX
 obtain⟨wq,rfl⟩:∃W,W=wr:=⟨_,ii⟩;have a2:=ag (dO M.out.1 M.out.2.1);have ah:Hid (Own zA 46 Pb p N wq (.slice a n c) o):=M.out.2.2;have HA:Hid (wS zA Pb p wq a o):=ah.out.rd2 λk hk=>a0 k (jm L.size hk)
 have lw:=L.trans hb;obtain rfl:n=o.length:=a2.out.1;have aw:o.length<=900100:=oX
 clear M;go_wp2;go_loopw [7,9,10,11,12,13,49] (λv _ _ _ _ _ i wz=>∃(t Y c2:Nat) (r:List Ex),t<=o.length/\i=.int .i64 t/\v=(Y,t,c2)/\t<=c2/\kL wq wz/\Hid (t=r.length/\(∀m,m∈r↔m∈o.take t)/\Own zA 46 Pb p wq wz v r)) (λ_ _ _ _ _ _ i _=>o.length-(intOf i).toNat)
 case atStart=>exact⟨0,_,_,[],wn _,ii,ii,rx _,sX,ii,λm=>sX,Own.ofE sX (aA4) cG⟩
 obtain⟨t,Y,c2,r,ht,rfl,rfl,xz,ai,Z⟩:=hrel;obtain⟨wz,rfl⟩:∃W,W=wr:=⟨_,ii⟩;by_cases ak:t<o.length
 .obtain⟨y,hy⟩:∃y,o[t]?=some y:=⟨_,fv ak⟩;obtain⟨b,off,cs,rfl,rfl,R,R0⟩:=HA.out.get (n:=13) hy;have HT:Hid (∀m,m∈o.take (t+1)↔m∈o.take t\/m=y):=λm=>by rw[as4,hy];simp
  clear hy;go_upto_region 15 with fail
  generalize hW:World.alloc wz _=C;obtain⟨L6,S6,⟨K6,_⟩,_⟩:=bN5;have yD:=ai.trans L6;have SD:Hid (Own zA 46 Pb p wq C (Y,t,c2) r):=by rw[<-hW];exact Z.out.2.2.alloc _
  have Ou:=ag (dO Z.out.1 Z.out.2.1);have Wf:Hid (wS zA Pb p C Y r):=SD.out.rd2 λk hk=>a0 k (jm lw.size hk)
  have F:Hid (t=r.length):=Z.out.1;clear hW S6 Z;go_wp2;go_loopw [10,11,12,55] (λal _ _ i wx=>∃(s d:Nat),s<=t/\i=.int .i64 s/\al=.int .i64 d/\d<=s/\kL C wx) (λ_ _ _ i _=>t-(intOf i).toNat)
  case atStart=>exact⟨0,0,wn _,ii,ii,rx _,sX⟩
  obtain⟨s,d,hs,rfl,rfl,ax,Uh⟩:=hrel;obtain⟨wx,rfl⟩:∃W,W=wr:=⟨_,ii⟩;by_cases VU:s<t
  .obtain⟨z,hz⟩:∃z,r[s]?=some z:=⟨_,fv (by rw[<-F.out];exact VU)⟩;obtain⟨b7,J,T,e7,rfl,R7,G⟩:=Wf.out.get (n:=13) hz
   cases e7;simp only[wl]at R7 G;clear hz;go_upto_region 19 with fail
   generalize hW:World.alloc wx _=W8;obtain⟨L8,S8,⟨K8,_⟩,_⟩:=bN5;have B:=Uh.trans L8;clear hW S8;by_cases mP:z.call<=y.call
   .go_wp2;exact⟨⟨s+1,s+1,oX,cj8,cj8,rx _,B⟩,cj2⟩
   go_wp2;exact⟨⟨s+1,d,oX,cj8,ii,oX,B⟩,cj2⟩
  have yb:=Uh;have ao:d<=t:=oX
  obtain⟨G,eE⟩:∃x,x=r.take d:=⟨_,ii⟩;obtain⟨T,kt⟩:∃x,x=r.drop d:=⟨_,ii⟩;have a3:=ag (Wf.out.take d);have B:Hid (G.length=d/\T.length=t-d):=by have:=F.out;exact⟨by rw[eE,tC];omega,by rw[kt,bD2];omega⟩
  have Fc:Hid (∀m,m∈G++[y]++T↔m∈r\/m=y):=λm=>by
   rw[eE,kt];have:m∈r↔m∈r.take d\/m∈r.drop d:=by rw[<-ae4,bH1]
   rw[this];simp only[ae4,ae6];grind
  rw[<-eE]at a3;have w1:(0:Int)<=(d:Int):=oX
  have w2:(d:Int)<=(c2:Int):=oX
  have w3:(d:Int)<=(t:Int):=oX
  rcases aj8 d c2 with aq|aq
  case' inl=>have w4:¬c2-d=0:=oX;have w5:¬c2<=d:=oX;have a4:Hid (wS zA Pb p C (Y,d*13) T):=(by have h:=Wf.out.drop (n:=13) (j:=d) (by rw[<-F.out];exact ao);rw[wl]at h;rw[kt];exact h)
  case' inr=>have w4:c2-d=0:=oX;have a4:Hid (wS zA Pb p C Y T):=(by rw[kt,List.drop_eq_nil_of_le (by have:=F.out;omega)];exact⟨sX,[],⟨ii,λk x cs h=>cj5⟩,λh=>aX ii h⟩)
  all_goals
   clear eE kt R R0;go_upto_region 22 with fail
   go_region_held3 (λW=>kL C W) (repeat(first|with_reducible exact yb|with_reducible exact z6|with_reducible exact z5|with_reducible refine m8 ?_|with_reducible refine ah9 ?_ _)) (first
    |(refine aX6 ii (aX5 (E:=zA) (P:=Pb) (wF:=p) (w0:=C) (w1:=C) (xs:=[]) (ys:=G) (.tmp 68) (.tmp 71) 39 46 rfl bl6 dX ii (by refine Own.ofE (by simp[yb]) ?_ (by have:=yb.size;simp;omega);first|exact aA4|exact aX4|exact aW4) ii B.out.1.symm (by exact a3) (kL.ER (by simp[yb])) (by have:=B.out.1;simp;omega) ?_);intro v1 Y5 H5 O;obtain⟨a5,c5,rfl⟩:=bN8;have z5:=H5.1;obtain⟨X,a8⟩:=dA H5 O;clear H5 O)
    |(refine aX6 ii (aY0 (E:=zA) (P:=Pb) (wF:=p) (w0:=C) (xs:=G) (y:=y) (.tmp 72) (.tmp 74) 39 46 rfl bl6 dX ii (by first|exact X.out.alloc _|exact X) ii (by first|exact aA4|(refine a8 _ _ ?_ (aX4);intro e;have:=mx e;dsimp at this;omega)|(refine a8 _ _ ?_ (aW4);intro e;have:=mx e;dsimp at this;omega)) cw9 (by have:=B.out.1;omega) ?_);intro v2 Y6 H6 _;obtain⟨a6,c6,rfl⟩:=H6.shape;have z6:=H6.1;have ar:Hid (Own zA 46 Pb p C Y6 (a6,G.length+1,c6) (G++[y])):=(by have h:=H6;rw[aU7]at h;exact h);clear H6))
   all_goals
    go_wp2_with (refine ae2 ii λK hK=>aX5 (E:=zA) (P:=Pb) (wF:=p) (w0:=C) (w1:=C) (xs:=G++[y]) (ys:=T) (.tmp 76) (.tmp 79) 39 46 rfl bl6 dX ii (by exact ar) ii B.out.2.symm (by exact a4) (kL.ER z6) (by have:=B.out;simp;omega) λv3 Y7 H7 _=>hK _ _ ?_;obtain⟨a7,c7,rfl⟩:=H7.shape;have J:=ag H7;clear H7);have VT:(G++[y]++T).length=t+1:=(by have:=B.out;simp;omega);obtain⟨g7,rfl,_⟩:=J.out.toR (by rw[VT];omega);have h7:=J.out.le;have z7:=J.out.1;have hO:=ag (J.out.down yD);rw[VT]at h7;refine⟨⟨t+1,g7,c7,G++[y]++T,oX,cj8,?_,h7,yD.trans z7,VT.symm,λm=>?_,by have h:=hO.out;simpa using h⟩,cj2⟩
    .rw[<-VT];simp
    rw[Fc.out,Ou.out.2,HT.out]
 have B:t=o.length:=oX
 go_wp2;obtain⟨F,C,G⟩:=Z.out;rw[B,yl cG]at C;subst F;exact HQ _ _ r wz (λm=>(C m).trans (a2.out.2 m)) oX (G.down lw)