import Derived.Test.YtadifmnmfnihdaaGreatA08
import Derived.Test.YtadifmnmfnihdaaGreatA18
set_option linter.all false
set_option maxRecDepth 100000
set_option maxHeartbeats 40000000
namespace Go.Proofs.YtadifmnmfnihdaaGreat
open Go.RowKit Mach Go.Proofs.Tryz
variable{v u f w' w2:World}{A:am}{b n z:Nat}{a:Value}{R Y:Int}
variable{Pb:Nat->Prop}
abbrev LM(m:Ex):Array Value:=#[m.g,m.op,m.call,m.bJ,m.lQ,m.bF,m.fire,m.re,m.res.aJ,m.res.case,m.res.v,m.res.ok,m.res.n]
theorem bw7(r s:nP):r=s↔r.aJ=s.aJ/\r.case=s.case/\r.v=s.v/\r.ok=s.ok/\r.n=s.n:=by cases r;cases s;simp
theorem bu4(a b:Int)(w:World):gt 128 #[a,b] w (eL (V.cut a b) (kL w)):=by
 by_cases h:b<a
 all_goals
  have c:V.cut a b=if b<a then 0 else a:=rfl
  first|rw[aF h]at c|rw[aE h]at c
  rw[c];clear c;go_enter func128,ntmps128;go_wp2;go_ret;exact⟨ii,sX⟩
def agB(m:Ex)(r:nP):Bool:=m.re==0&&m.res.aJ==0||decide (m.res=r)
theorem bz3{m:Ex}{r:nP}(h:agB m r):m.re=0\/m.res=r:=by unfold agB at h;simp at h;exact h.imp (·.1) id
theorem bf9(m:Ex)(r:nP)(w:World):gt 188 #[.agg (LM m),.agg (NX r)] w (eL (agB m r) (kL w)):=by
 obtain⟨b,a⟩:=dC (agB m r);have d:Hid (b=true↔m.re=0/\m.res.aJ=0\/m.res.aJ=r.aJ/\m.res.case=r.case/\m.res.v=r.v/\m.res.ok=r.ok/\m.res.n=r.n):=by rw[a];unfold agB;show _↔_;simp[bw7]
 rw[<-a];clear a;go_enter func188,ntmps188;go_upto_region 1 with fail
 generalize c:World.alloc (World.alloc w _) _=e;obtain⟨L,S,⟨f,_⟩,⟨g,_⟩,_⟩:=aa0 c;clear c;go_wp2;all_goals(go_ret;have a:=d.out;exact⟨by cases b<;>simp_all,L⟩)
theorem bw8(M:V.q9)(g:Int)(o:cu)(c d x:am)(f wc i:Nat)(w:World)(k:Fa Pb w c d M)(j:ix wX Pb w x o.cases):gt 184 #[.agg #[(c,M.MP.length,f),(d,M.ws.length,wc)],g,qG o x i] w λe l=>∃b:Bool,e=b/\kL w l:=by
 have m:Hid (∀W v,v=qG o x i->kL w W->gt 70 #[.agg #[(c,M.MP.length,f),(d,M.ws.length,wc)],I g,v] W (aU1 W (V.aZ6 M g o))):=λW v n a=>by rw[n];exact bf0 M g o c d x f wc i W (k.later a) (j.later a)
 have p:=j.1;clear k j;go_enter func184,ntmps184;go_upto_region 1 with fail
 generalize a:World.alloc (World.alloc w _) _=q;obtain⟨L,S,⟨r,_⟩,⟨s,_⟩,_⟩:=aa0 a;clear a;go_wp2_with (go_at_call 70;refine(m _ _ cj4 L).mono ?_;rintro e t ⟨b,rfl,_,l3⟩;have u:=bN7);all_goals(go_ret;exact⟨_,ii,cj4⟩)
theorem Kept.up{W1 w3:World}{y:Value}(h:Kept Pb v u ((w3.setCell (b,n) a).setCell (b,z) y) f)(c:b<W1)(d:u<=W1.heap.size):Kept Pb v W1 w3 f:=
 ⟨h.1,λk e jO=>(h.2 k oX cr1).trans (aS2 oX)⟩
theorem Kept.back(h:Kept Pb v u w' w2)(l:kL f w'):Kept Pb v u f w2:=⟨h.1,λk a b=>(h.2 k a (uB b l.size)).trans (Below.block l k b)⟩
theorem aY5(M:V.q9)(m:Ex)(o:cu)(t u x:am)(C D E:Nat)(f w:World)(R:Fa Pb f t u M)(S:ix wX Pb f x o.cases)(hF:aV2 Pb f w)(T:∀k,w.heap.size<=k->Pb k)(hn:o.n<=1000):gt 185 #[.agg #[(t,M.MP.length,C),(u,M.ws.length,D)],qG o x E,.agg (LM m)] w (PMd Pb f w λU=>∃r,(m.re=0\/m.res=r)/\U.ws=V.out m.g M.ws/\V.aU2 M o m.fire r U.MP):=by
 have XH:Hid (∀W v,v=qG o x E->kL w W->gt 212 #[.agg #[(t,M.MP.length,C),(u,M.ws.length,D)],I m.g,v,I m.fire] W (bg9 Pb f W M m.g o m.fire)):=λW v F b=>by rw[F];exact bq2 M m.g m.fire o t u x C D E f W R S (hF.trans b) (λk y=>T k (jm b.size y)) hn
 have G:Hid (∀r W v,v=.agg (LM m)->gt 188 #[v,.agg (NX r)] W λe w'=>e=B (agB m r)/\kL W w'):=λr W v F=>by rw[F];exact bf9 m r W
 clear R S T;go_enter func185,ntmps185;go_upto_region 1 with fail
 generalize b:World.alloc (World.alloc (World.alloc (World.alloc w _) _) _) _=X;obtain⟨z,L0,S0,S1,L1,⟨K1,_⟩,⟨K2,_⟩,⟨K3,_⟩,⟨K4,F4⟩,Y⟩:=bt1 b;obtain⟨H,L⟩:=bL2;clear b S1 S0;go_upto_region 2 with(go_at_call 212;refine(XH _ _ cj4 L).mono ?_;rintro e c ⟨i,j,l,p,d,r,ok,rfl,y,Z,l3⟩;obtain⟨HK,HR⟩:=dA y Z;clear y Z)
 generalize b:World.alloc (World.alloc c _) _=s;obtain⟨J,S4,⟨K5,_⟩,⟨K6,_⟩,_⟩:=aa0 b;clear b;have A:=l3.trans J;have s0:kL z s/\(∀q,q<2->s.cell? ⟨c.heap.size,q,none⟩=(#[(i,d.MP.length,j),(l,d.ws.length,p)]:dl)[q]?)/\∀q,q<5->s.cell? ⟨c.heap.size+1,q,none⟩=(NX r)[q]?:=⟨L1.trans A,K5 _ (kb _),K6 _ (kb _)⟩;have K:Hid (z=w.heap.size+3/\w.heap.size+4<=c):=⟨H.out.1,by have:=H.out.2;have:=l3.size;omega⟩
 cases ok
 case' false=>go_region
 case' true=>
  go_region_held3 (λW=>kL z W/\(∀q,q<2->W.cell? ⟨c.heap.size,q,none⟩=(#[(i,d.MP.length,j),(l,d.ws.length,p)]:dl)[q]?)/\∀q,q<5->W.cell? ⟨c.heap.size+1,q,none⟩=(NX r)[q]?) (repeat(first|with_reducible exact s0|with_reducible exact s1|with_reducible refine bu2 ?_|refine bh0 ?_ (by have:=K.out;omega) _))
   (first|(go_at_call 188;refine(G _ _ _ cj4).mono ?_;rintro e N ⟨rfl,l5⟩;have a:=kL.trans (m8 (kb s)) l5;have O:=A.trans a;have s1:kL z N/\(∀q,q<2->N.cell? ⟨c.heap.size,q,none⟩=(#[(i,d.MP.length,j),(l,d.ws.length,p)]:dl)[q]?)/\∀q,q<5->N.cell? ⟨c.heap.size+1,q,none⟩=(NX r)[q]?:=⟨L1.trans O,K5 _ a,K6 _ a⟩;clear l5))
 all_goals
  go_wp2;have h1:=H.out.2
 .refine aV4 ii ii (aw1 (kL.heap O Y) _ _) aR1 ?_;exact⟨i,j,l,p,d,agB m r,ii,λW h=>HK W ((h.up (W1:=X) oX oX).back (J.trans a)),λQ=>⟨r,bz3 Q,HR sX⟩,by simp[L.trans O]⟩
 refine aV4 ii ii (aw1 (kL.heap A Y) _ _) aR1 ?_;exact⟨i,j,l,p,d,false,ii,λW h=>HK W ((Kept.up (w3:=s) h (W1:=X) oX oX).back J),λQ=>(by cases Q),by simp[L.trans A]⟩
def bn3(k:Int)(M:V.q9)(m:Ex)(o:cu)(a:V.q9):Prop:=k=1/\a=⟨M.MP,M.ws++[⟨m.g,o⟩]⟩/\¬(∃u∈M.ws,u.g=m.g)/\¬V.aZ6 M m.g o\/k≠1/\a=M\/k≠1/\m.bF= -1/\∃r,(m.re=0\/m.res=r)/\a.ws=V.out m.g M.ws/\V.aU2 M o m.fire r a.MP
theorem bn4(M:V.q9)(m:Ex)(o:cu)(D:Int)(c d x:am)(f i q:Nat)(l w:World)(s:Fa Pb l c d M)(z:ix wX Pb l x o.cases)(hF:aV2 Pb l w)(E:∀k,w.heap.size<=k->Pb k)(Z:o.n<=1000)(hw:M.ws.length<1000000):gt 125 #[.agg #[(c,M.MP.length,f),(d,M.ws.length,i)],qG o x q,.agg (LM m),D] w (PMd Pb l w (bn3 D M m o)):=by
 have F:Hid (∀W v,v=qG o x q->kL w W->gt 183 #[.agg #[(c,M.MP.length,f),(d,M.ws.length,i)],I m.g,v] W (PMd Pb l W λA=>A=⟨M.MP,M.ws++[⟨m.g,o⟩]⟩/\¬(∃u∈M.ws,u.g=m.g)/\¬V.aZ6 M m.g o)):=λW v t a=>by rw[t];exact N1 M m.g o c d x f i q l W s z (hF.trans a) (λk j=>E k (jm a.size j)) hw
 have G:Hid (∀W v,v=qG o x q->kL w W->gt 184 #[.agg #[(c,M.MP.length,f),(d,M.ws.length,i)],I m.g,v] W λe w'=>∃b:Bool,e=B b/\kL W w'):=λW v t a=>by rw[t];exact bw8 M m.g o c d x f i q W (s.Ur (hF.trans a)) (z.Ur (hF.trans a))
 have XH:Hid (∀W v u,v=qG o x q->u=.agg (LM m)->kL w W->gt 185 #[.agg #[(c,M.MP.length,f),(d,M.ws.length,i)],v,u] W (PMd Pb l W λA=>∃r,(m.re=0\/m.res=r)/\A.ws=V.out m.g M.ws/\V.aU2 M o m.fire r A.MP)):=λW v u t hu a=>by rw[t,hu];exact aY5 M m o c d x f i q l W s z (hF.trans a) (λk j=>E k (jm a.size j)) Z
 have X:=ag s;clear s z E;go_enter func125,ntmps125;go_upto_region 1 with fail
 generalize a:World.alloc (World.alloc (World.alloc (World.alloc w _) _) _) _=W1;obtain⟨W0,L0,S0,S1,L1,⟨K1,_⟩,⟨K2,_⟩,⟨K3,_⟩,⟨K4,F4⟩,C⟩:=bt1 a;obtain⟨H,L⟩:=bL2;clear a S1 S0;rcases k1:D==1 with _|_
 .rcases k2:m.bF== -1 with _|_
  .go_wp2;refine aV4 ii ii (aw1 C _ _) aR1 ?_;exact⟨c,f,d,i,M,false,ii,λW h=>X.out.Ur h.1,λh=>ck3,ct1⟩
  rcases k3:m.res.aJ==2 with _|_
  .go_wp2_with (go_at_call 185;refine(XH _ _ _ cj4 cj4 L).mono ?_;rintro e Y ⟨J,K,N,O,Q,R,rfl,j,y,p⟩;obtain⟨S,T⟩:=dA j y;clear j y);have h1:=H.out.2;refine aV4 ii ii (aw1 (kL.heap p C) _ _) aR1 ?_;exact⟨J,K,N,O,Q,R,ii,λW h=>S W (h.up oX oX),λh=> .inr (.inr ⟨cu2,by simpa using k2,T h⟩),by simp[L.trans p]⟩
  go_upto_region 6 with fail
  go_region_held3 (λW=>kL W0 W) (repeat(first|with_reducible exact L1|with_reducible exact kQ|with_reducible refine m8 ?_|refine Gv ?_ (by have:=H.out.1;simp only;omega) _))
   (first|(go_at_call 184;refine(G _ _ cj4 ct1).mono ?_;rintro e Y ⟨b,rfl,p⟩;have U:=kL.trans (w:=W1) sX p;have kQ:=L1.trans U;clear p))
  all_goals
   go_wp2;refine aV4 ii ii (aw1 (kL.heap U C) _ _) aR1 ?_;exact⟨c,f,d,i,M,b,ii,λW h=>X.out.Ur h.1,λh=> .inr (.inl ⟨cu2,ii⟩),by simp[L.trans U]⟩
 go_wp2_with (go_at_call 183;refine(F _ _ cj4 L).mono ?_;rintro e Y ⟨J,K,N,O,Q,R,rfl,j,y,p⟩;obtain⟨S,T⟩:=dA j y;clear j y);have h1:=H.out.2;refine aV4 ii ii (aw1 (kL.heap p C) _ _) aR1 ?_;exact⟨J,K,N,O,Q,R,ii,λW h=>S W (h.up oX oX),λh=> .inl ⟨cu2,T h⟩,by simp[L.trans p]⟩
variable{Pb:Nat->Prop}
def zA:nR Ex:=⟨13,λ_ _ m a=>a=(LM m).toList,by rintro _ _ _ _ rfl;rfl,by rintro _ _ _ _ rfl;simp[Value.oneCell'],λ_ h=>h,λ_ h=>h⟩
def RW:nR V.Pt:=⟨3,λ_ _ p a=>a=[I p.av,p.ai,I p.at_],by rintro _ _ _ _ rfl;rfl,by rintro _ _ _ _ rfl;simp[Value.oneCell'],λ_ h=>h,λ_ h=>h⟩
abbrev bz4(W:World)(b:Nat)(e f g h i j k l m n a c d:Value):World:=(((((((((((((W).setCell b e).setCell (b,1) f).setCell (b,2) g).setCell (b,3) h).setCell (b,4) i).setCell (b,5) j).setCell (b,6) k).setCell (b,7) l).setCell (b,8) m).setCell (b,9) n).setCell (b,10) a).setCell (b,11) c).setCell (b,12) d
theorem ba6{t:TypeId}{u w x y z A B C D f g i:Value}(h:v.heap[b]?=some (.cells #[a,u,w,x,y,z,A,B,C,D,f,g,i] t (0,0))){j k l m n o p q r s c d e:Value}:(bz4 v b j k l m n o p q r s c d e).heap[b]?=some (.cells #[j,k,l,m,n,o,p,q,r,s,c,d,e] t (0,0)):=by
 have:=ms _ b 12 _ _ e (ms _ b 11 _ _ d (ms _ b 10 _ _ c (ms _ b 9 _ _ s (ms _ b 8 _ _ r (ms _ b 7 _ _ q (ms _ b 6 _ _ p (ms _ b 5 _ _ o (ms _ b 4 _ _ n (ms _ b 3 _ _ m (ms _ b 2 _ _ l (ms _ b 1 _ _ k (ms _ b 0 _ _ j (h)))))))))))));simp_all
theorem bw9{g i j k l m o p r c d f:Value}(h:b≠n):(bz4 u b a g i j k l m o p r c d f).heap[n]?=u.heap[n]?:=
 have e:∀(u:World) q v,(u.setCell ⟨b,q,none⟩ v).heap[n]?=u.heap[n]?:=λ_ _ _=>fQ (dE h)
 (e _ _ _).trans ((e _ _ _).trans ((e _ _ _).trans ((e _ _ _).trans ((e _ _ _).trans ((e _ _ _).trans ((e _ _ _).trans ((e _ _ _).trans ((e _ _ _).trans ((e _ _ _).trans ((e _ _ _).trans ((e _ _ _).trans (e _ _ _))))))))))))
theorem bc1{g i j k l m n o p d e f:Value}(h:kL v u)(c:v<=b):kL v (bz4 u b a g i j k l m n o p d e f):=Gv (Gv (Gv (Gv (Gv (Gv (Gv (Gv (Gv (Gv (Gv (Gv (Gv (h) c _) c _) c _) c _) c _) c _) c _) c _) c _) c _) c _) c _) c _
theorem bn5(m:Ex)(w:World):gt 180 #[.agg (LM m)] w λe n=>∃b:Bool,e=b/\kL w n:=by
 go_enter func180,ntmps180;go_upto_region 3 with fail
 generalize d:World.alloc (World.alloc w _) _=f;obtain⟨L,S,⟨p,_⟩,⟨a,_⟩,_⟩:=aa0 d;clear d
 have o:Hid (∀j:Nat,j<3->∃z:Int,∀W,kL f W->W.cell? ⟨w.heap.size+1,j,none⟩=I z):=λj g=>by
  match j,g with
  |0,_=>exact⟨m.bJ,λW h=>a W h 0 sX⟩
  |1,_=>exact⟨m.lQ,λW h=>a W h 1 sX⟩
  |2,_=>exact⟨m.re,λW h=>a W h 2 sX⟩
 clear a;go_loopw [3,5,16] (λl _ i wr=>∃(z:Int) (j:Nat),l=.int .i64 z/\j<=3/\i=.int .i64 j/\kL f wr) (λ_ _ i _=>3-(intOf i).toNat)
 case atStart=>exact⟨_,0,ii,oX,ii,sX⟩
 obtain⟨z,j,rfl,g,rfl,c⟩:=hrel;by_cases k:j<3
 .obtain⟨y,q⟩:=o.out j k;go_wp2
  all_goals first
   |(go_ret;exact⟨_,ii,L.trans c⟩)
   |exact⟨⟨_,j+1,ii,oX,cj8,by simp[c]⟩,cj2⟩
 obtain rfl:j=3:=oX
 clear k;go_wp2;all_goals(go_ret;exact⟨_,ii,L.trans c⟩)
theorem bq3(l:List Ex)(g d:Int)(f:am)(p:Nat)(w:World)(H:ix zA Pb w f l):gt 181 #[(f,l.length,p),g,d] w λe a=>∃(m:Ex) (n:Nat),e=Value.tuple #[.agg (LM m),I n]/\kL w a:=by
 have C:=H.1;have q:=ag H;clear H;obtain⟨Q,c⟩:∃Q:Ending->World->Prop,Q=λe a=>∃(m:Ex) (n:Nat),e=.returned (.tuple #[.agg (LM m),I n])/\kL w a:=⟨_,ii⟩
 have r:Hid (∀(m:Ex) (n:Nat) a,kL w a->Q (Value.tuple #[.agg (LM m),I n]) a):=λm n a h=>by rw[c];exact⟨m,n,ii,h⟩
 rw[<-c];clear c;go_enter func181,ntmps181;go_upto_region 2 with fail
 generalize hW:World.alloc (World.alloc w _) _=s;obtain⟨L,S,⟨t,_⟩,_,u⟩:=aa0 hW;have v:Hid (s.heap[w.heap.size]?=some (.cells (LM ⟨0,0,0,0,0,0,0,0,{}⟩) 46 (0,0))):=by subst hW;exact(gf _ _ _ sX).trans (aA4)
 have D:=ag S;clear hW t S;go_wp2;go_loopw [9,11,15] (λn _ i wr=>∃(k j:Nat) (m:Ex),k<=j/\n=.int .i64 k/\j<=l.length/\i=.int .i64 j/\kL w wr/\Hid (wr.heap[w.heap.size]?=some (.cells (LM ⟨0,0,0,0,0,0,0,0,{}⟩) 46 (0,0)))/\Hid (wr.heap[w.heap.size+1]?=some (.cells (LM m) 46 (0,0)))) (λ_ _ i _=>l.length-(intOf i).toNat)
 case atStart=>exact⟨0,0,⟨0,0,0,0,0,0,0,0,{}⟩,rx _,ii,wn _,ii,L,v,u⟩
 obtain⟨k,j,m0,E,rfl,F,rfl,hb,H0,H1⟩:=hrel;by_cases x:j<l.length
 .obtain⟨m,o⟩:∃m,l[j]?=some m:=⟨_,fv x⟩;obtain⟨b,off,G,rfl,rfl,R,J⟩:=q.out.get (n:=13) o;clear o;go_upto_region 6 with fail
  generalize hW:World.alloc wr _=K;obtain⟨L2,S2,⟨y,_⟩,_⟩:=bN5;obtain⟨z,A⟩:=aI3 (kL.heap L2 H1);have b2:=bN6;clear hW;have M:=(dh (kL.heap L2 H1)).1;have B:=hb.size;rcases N:m.g==g with _|_
  .exact cf0
  rcases O:m.op==d with _|_
  .exact cf0
  go_wp2;exact⟨⟨k+1,j+1,m,oX,cj8,oX,cj8,bc1 b2 oX,(bw9 oX).trans (kL.heap L2 H0),ba6 (kL.heap L2 H1)⟩,cj2⟩
 obtain⟨y,_⟩:=aI3 H1;obtain⟨z,A⟩:=aI3 H0;have o:=(dh H0).1;go_wp2;refine aV4 ii ii (ba6 H0) bu5 ?_;exact r m0 k _ (bc1 hb cG)
def bg3(l:List V.Pt)(p:V.Pt)(r:List V.Pt):Prop:=∃j,j<=l.length/\r=l.take j++p::l.drop j/\(∀q,j≠0->l[j-1]?=some q->q.av<=p.av)/\∀i q,j<=i->l[i]?=some q->p.av<q.av
theorem bn6:XS 181 184 3:=⟨by kernel_rfl,by kernel_rfl⟩
theorem wS.take{α:Type}{E:nR α}{g w:World}{a:am}{i:List α}(h:wS E Pb g w a i)(j:Nat):wS E Pb g w a (i.take j):=by
 obtain⟨p,d,l,m⟩:=h;refine⟨by rw[tC];omega,d.take j,⟨by simp[l.1],λk x n c f=>?_⟩,λo=>?_⟩
 .rw[List.getElem?_take]at c f;split at c
  .rw[aF uX]at f;exact l.2 k x n c f
  cases c
 obtain⟨b,off,e,q,c⟩:=m λe=>o co9
 grind [List.take_append_drop]
theorem wS.drop{α:Type}{E:nR α}{l w:World}{b off:Nat}{f:List α}(h:wS E Pb l w (b,off) f){j n:Nat}(t:j<=f)(m:E.n=n:=by rfl):wS E Pb l w (b,off+j*n) (f.drop j):=by
 subst m;obtain⟨u,a,g,p⟩:=h
 have q:(a.take j).flatten.length=j*E.n:=by
  have y:OC E Pb l (f.take j) (a.take j):=⟨by simp[g.1],λk x o c d=>by
   rw[List.getElem?_take]at c d;split at c
   .rw[aF uX]at d;exact g.2 k x o c d
   cases c⟩
  grind [OC.len,List.length_take]
 refine⟨by rw[bD2];omega,a.drop j,⟨by simp[g.1],λk x o c d=>g.2 (j+k) x o (by rw[<-ay7];exact c) (by rw[<-ay7];exact d)⟩,λm=>?_⟩;obtain⟨z,A,e,r,c⟩:=p λe=>m co9
 cases e;refine⟨b,_,ii,r,λi v s=>?_⟩;rw[aj2];refine c _ v ?_;rw[<-bH1 j a,ax9,Ew oX,q,Nat.add_sub_cancel_left];exact s
theorem bu6(l:List V.Pt)(p:V.Pt)(b off m:Nat)(w:World)(H:ix RW Pb w (b,off) l)(hc:l<=m)(hl:l.length<1000000):gt 182 #[.slice (b,off) l m,.agg #[p.av,p.ai,I p.at_]] w λe o=>∃a c r,e=.returned (a,List.length r,c)/\bg3 l p r/\Own RW 184 Pb w w o (.slice a r c) r:=by
 have RH:=H.1;have G:=ag H;clear H;obtain⟨Q,J⟩:∃Q:Ending->World->Prop,Q=λe o=>∃a c r,e=.returned (.slice a (List.length r) c)/\bg3 l p r/\Own RW 184 Pb w w o (.slice a r.length c) r:=⟨_,ii⟩
 have HQ:Hid (∀a c r o,bg3 l p r->Own RW 184 Pb w w o (.slice a (List.length r) c) r->Q (Value.slice a r c) o):=λa c r o h d=>by rw[J];exact⟨a,c,r,ii,h,d⟩
 rw[<-J];clear J;go_enter func182,ntmps182;go_upto_region 1 with fail
 generalize hW:World.alloc w _=s;obtain⟨L,S,⟨K1,_⟩,_⟩:=bN5;clear hW;go_wp2;go_loopw [5] (λi wr=>∃j:Nat,j<=l.length/\i=.int .i64 j/\kL s wr/\Hid (∀i q,j<=i->l[i]?=some q->p.av<q.av)) (λi _=>(intOf i).toNat)
 case atStart=>exact⟨l.length,rx _,ii,sX,λi q h d=>by rw[rq h]at d;cases d⟩
 obtain⟨j,hj,rfl,C,HJ⟩:=hrel;have oH:=L.trans C
 have lR:¬0<j\/∃(i:Nat) (q:V.Pt),0<j/\IntKind.i64.wrap ((j:Int)-1)=i/\i<l.length/\Hid (i+1=j)/\l[i]?=some q:=by
  cases j with
  |zero=>exact .inl oX
  |succ i=>exact .inr ⟨i,_,oX,cx7,oX,ii,fv oX⟩
 rcases lR with M|⟨i,q,M,v1,v2,N,O⟩
 case' inr=>
  obtain⟨b',VK,cs,e,rfl,R,R0⟩:=G.out.get (n:=3) O
  cases e;have T:=ag O;clear O;rcases e1:decide (p.av<q.av)with _|_
  case' true=>
   go_upto_region 2 with fail
   go_region;go_wp2;refine⟨⟨i,by have:=N.out;omega,cj8,by simp[C],λk y h1 d=>?_⟩,by have:=N.out;simp[intOf];omega⟩;grind [Hid.out]
 case' inl=>have HX:Hid (∀q,j≠0->l[j-1]?=some q->q.av<=p.av):=λq h _=>aX M oX
 case' inr=>have HX:Hid (∀q,j≠0->l[j-1]?=some q->q.av<=p.av):=λy h d=>(by rw[show j-1=i by have:=N.out;omega,T.out]at d;cases d;simp at e1;omega)
 all_goals
  go_upto_region 2 with fail
  go_region;go_wp2;have u:=m8 C;have v:=L.trans u;clear C oH;generalize World.drew wr=V at u v ⊢;obtain⟨f,D⟩:∃x,x=l.take j:=⟨_,ii⟩;obtain⟨t,z⟩:∃x,x=l.drop j:=⟨_,ii⟩;have HT:=ag (G.out.take j);have A:Hid (f.length=j/\t.length=l.length-j):=⟨by rw[D,tC];omega,by rw[z,bD2]⟩;have uV:=ag (dO D z);rw[<-D]at HT;have w1:(0:Int)<=(j:Int):=oX
  have w2:(j:Int)<=(m:Int):=oX
  have w3:(j:Int)<=(l.length:Int):=oX
  rcases aj8 j m with U|U
  case' inl=>have w4:¬m-j=0:=oX;have w5:¬m<=j:=oX;have HD:Hid (wS RW Pb w w (b,off+j*3) t):=(by rw[z];exact G.out.drop (n:=3) hj)
  case' inr=>have w4:m-j=0:=oX;have HD:Hid (wS RW Pb w w (b,off) t):=(by rw[z,List.drop_eq_nil_of_le oX];exact⟨sX,[],⟨ii,λk x cs h=>cj5⟩,λh=>aX ii h⟩)
  all_goals
   clear D z M
   go_region_held3 (λW=>kL s W) (repeat(first|with_reducible exact u|with_reducible exact z6|with_reducible exact z5|with_reducible refine m8 ?_|with_reducible refine ah9 ?_ _)) (first
    |(refine aX6 ii (aX5 (E:=RW) (P:=Pb) (wF:=w) (w0:=s) (w1:=w) (xs:=[]) (ys:=f) (.tmp 24) (.tmp 27) 181 184 rfl bn6 dX ii (by refine Own.ofE (by simp[u]) ?_ (by have:=u.size;simp;omega);first|exact aA4|exact aX4|exact aW4) ii A.out.1.symm (by exact HT) (kL.ER (by simp[v])) (by have:=A.out.1;simp;omega) ?_);intro v1 Y5 H5 k5;obtain⟨a5,c5,rfl⟩:=bN8;have z5:=H5.1;obtain⟨Yh,B⟩:=dA H5 k5;clear H5 k5)
    |(refine aX6 ii (aY0 (E:=RW) (P:=Pb) (wF:=w) (w0:=s) (xs:=f) (y:=p) (.tmp 28) (.tmp 30) 181 184 rfl bn6 dX ii (by first|exact Yh.out.alloc _|exact Yh) ii (by first|exact aA4|(refine B _ _ ?_ (aX4);intro e;have:=mx e;dsimp at this;omega)|(refine B _ _ ?_ (aW4);intro e;have:=mx e;dsimp at this;omega)) cw9 (by have:=A.out.1;omega) ?_);intro v2 Y6 F _;obtain⟨a6,c6,rfl⟩:=F.shape;have z6:=F.1;have SD:Hid (Own RW 184 Pb w s Y6 (a6,f.length+1,c6) (f++[p])):=(by have h:=F;rw[aU7]at h;exact h);clear F))
   all_goals
    go_wp2_with (refine ae2 ii λK hK=>aX5 (E:=RW) (P:=Pb) (wF:=w) (w0:=s) (w1:=w) (xs:=f++[p]) (ys:=t) (.tmp 32) (.tmp 35) 181 184 rfl bn6 dX ii (by exact SD) ii A.out.2.symm (by exact HD) (kL.ER (L.trans z6)) (by have:=A.out;simp;omega) λv3 Y7 X _=>hK _ _ ?_;obtain⟨a7,c7,rfl⟩:=X.shape;have Y:=ag X;clear X);have hz:=uV.out;have h7:Own RW 184 Pb w w Y7 (a7,(f++p::t).length,c7) (f++p::t):=(by obtain⟨q0,q1,Z,q2,q3⟩:=Y.out;rw[al2]at q1 q2 q3;exact⟨L.trans q0,q1,Z,q2,q3.1,q3.2.imp id λ⟨g,cap,a0,e,hg,r⟩=>⟨g,cap,a0,e,jm L.size hg,r⟩⟩);have:=HQ.out _ _ _ _ ⟨j,hj,by rw[hz.1,hz.2],HX,HJ⟩ h7;simpa using this
variable{Pb:Nat->Prop}
theorem Own.down{α:Type}{E:nR α}{e:TypeId}{w:World}{v:Value}{c:List α}(h:Own E e Pb u f w' v c)(l:kL w f):Own E e Pb u w w' v c:=by
 obtain⟨i,j,a,k,d⟩:=h;exact⟨l.trans i,j,a,k,d.1,d.2.imp id λ⟨g,cap,b,e,m,r⟩=>⟨g,cap,b,e,jm l.size m,r⟩⟩
structure bu7(l:List Ex)(j:Nat)(pts:List V.Pt):Prop where
 sorted:∀(i k:Nat) x y,i<k->pts[i]?=some x->pts[k]?=some y->x.av<=y.av
 of:∀x∈pts,∃m,l[x.at_]?=some m/\(x.ai=1/\x.av=m.bJ\/x.ai=2/\x.av=m.lQ/\m.lQ≠0)
 all:∀(a:Nat) m,a<j->l[a]?=some m->m.bJ≠0->⟨m.bJ,1,a⟩∈pts
 len:pts<=2*j
 nz:∀x∈pts,x.av≠0
theorem bg3.mem{l r:List V.Pt}{p x:V.Pt}(h:bg3 l p r):x∈r↔x=p\/x∈l:=by
 obtain⟨j,a,rfl,_⟩:=h;grind [List.take_append_drop]
section
variable{l r:List V.Pt}{p:V.Pt}(h:bg3 l p r)
include h
theorem bg3.len:r=l.length+1:=by
 obtain⟨j,a,rfl,_⟩:=h;simp;omega
theorem bg3.sorted(z:∀(i k:Nat) x y,i<k->l[i]?=some x->l[k]?=some y->x.av<=y.av):∀(i k:Nat) x y,i<k->r[i]?=some x->r[k]?=some y->x.av<=y.av:=by
 obtain⟨j,A,rfl,m,B⟩:=h;have n:(l.take j).length=j:=by rw[tC];omega
 have e:∀(i:Nat) x,(l.take j++p::l.drop j)[i]?=some x->i<j/\l[i]?=some x\/i=j/\x=p\/j<i/\l[i-1]?=some x:=λi x h=>by
  rcases Nat.lt_trichotomy i j with f|f|f
  .grind
  .grind
  rw[Ew oX,n]at h;obtain⟨t,o⟩:∃t,i-j=t+1:=⟨i-j-1,oX⟩;rw[o,bm3,ay7,show j+t=i-1 by omega]at h;grind
 have s:∀(i:Nat) x,i<j->l[i]?=some x->x.av<=p.av:=λi x C g=>by obtain⟨q,u⟩:∃q,l[j-1]?=some q:=⟨_,fv oX⟩;have:=m q oX u;grind
 intro i k x y v g w;rcases e i x g with⟨a,b⟩|⟨a,rfl⟩|⟨a,b⟩<;>rcases e k y w with⟨c,d⟩|⟨c,rfl⟩|⟨c,d⟩
 .grind
 .exact s i x a b
 .grind
 .omega
 .exact ae1 _
 .grind
 all_goals grind
end
theorem bl1(l:List Ex)(T:am)(lc:Nat)(w:World)(H:ix zA Pb w T l)(U:∀k,w.heap.size<=k->Pb k)(X:l.length<=400000):gt 124 #[(T,l.length,lc)] w λe A=>∃g c d,e=.returned (g,List.length d,c)/\(V.ba9 l d/\∀x∈d,x.av≠0)/\Own RW 184 Pb w w A (.slice (some ⟨g,0,none⟩) d c) d:=by
 have RH:=H.1;have HH:=ag H;have D:Hid (∀(d:List V.Pt) (p:V.Pt) (g c n:Nat) W,n=d.length->Own RW 184 Pb w w W (.slice (some ⟨g,0,none⟩) d c) d->d.length<1000000->gt 182 #[.slice (some ⟨g,0,none⟩) n c,.agg #[I p.av,I p.ai,I p.at_]] W λe A=>∃B C r,e=Value.slice (some ⟨B,0,none⟩) (List.length r) C/\bg3 d p r/\Own RW 184 Pb w w A (.slice (some ⟨B,0,none⟩) r C) r/\kL W A):=λd p g c n W hn E X=>by rw[hn];refine(bu6 d p g 0 c W (E.rd E.1.ER U λ_ _ _=>rfl) E.le X).mono ?_;rintro e A ⟨a,C,r,rfl,t,h⟩;obtain⟨B,rfl,_⟩:=h.toR (by have:=t.len;omega);exact⟨B,C,r,ii,t,h.down E.1,h.1⟩
 clear H;obtain⟨Q,N⟩:∃Q:Ending->World->Prop,Q=λe A=>∃g c d,e=.returned (.slice (some ⟨g,0,none⟩) (List.length d) c)/\(V.ba9 l d/\∀x∈d,x.av≠0)/\Own RW 184 Pb w w A (.slice (some ⟨g,0,none⟩) d.length c) d:=⟨_,ii⟩
 have HQ:Hid (∀g c d A,(V.ba9 l d/\∀x∈d,x.av≠0)->Own RW 184 Pb w w A (.slice (some ⟨g,0,none⟩) (List.length d) c) d->Q (Value.slice (some ⟨g,0,none⟩) d c) A):=λg c d A h Y=>by rw[N];exact⟨g,c,d,ii,h,Y⟩
 rw[<-N];clear N U;go_enter func124,ntmps124;go_wp2;go_loopw [3,4,9] (λv _ i wr=>∃(j g c m:Nat) (d:List V.Pt),j<=l.length/\i=.int .i64 j/\v=.slice (some ⟨g,0,none⟩) m c/\kL w wr/\Hid (m=d.length/\bu7 l j d/\Own RW 184 Pb w w wr (.slice (some ⟨g,0,none⟩) d c) d)) (λ_ _ i _=>l.length-(intOf i).toNat)
 case atStart=>exact⟨0,_,_,_,[],wn _,ii,ii,sX,ii,⟨λi k x y _ h=>cj5,λx h=>cj5,λa m h=>oX,rx _,λx h=>cj5⟩,Own.ofE sX (aA4) cG⟩
 obtain⟨j,g,c,n,d,hj,rfl,rfl,hb,F⟩:=hrel;by_cases dD:j<l.length
 .obtain⟨m,G⟩:∃m,l[j]?=some m:=⟨_,fv dD⟩;obtain⟨b,off,cs,rfl,rfl,R,R0⟩:=HH.out.get (n:=13) G;have HM:=ag G;clear G;go_upto_region 5 with fail
  generalize hW:World.alloc wr _=W2;obtain⟨L2,S2,⟨K2,_⟩,HX⟩:=bN5;have K:=bN6;have s:Hid (n=d.length/\bu7 l j d/\Own RW 184 Pb w w W2 (.slice (some ⟨g,0,none⟩) d c) d):=⟨F.out.1,F.out.2.1,by rw[<-hW];exact F.out.2.2.alloc _⟩;clear hW S2;clear F HX
  have L:Hid (∀r p:List V.Pt,bu7 l j p->(∀x∈r,x∈p\/x=⟨m.bJ,1,j⟩/\m.bJ≠0\/x=⟨m.lQ,2,j⟩/\m.lQ≠0)->(∀x∈p,x∈r)->(m.bJ≠0->⟨m.bJ,1,j⟩∈r)->(∀(i k:Nat) x y,i<k->r[i]?=some x->r[k]?=some y->x.av<=y.av)->r.length<=2*j+2->bu7 l (j+1) r):=λr p h M Y O S z=>by
   refine⟨S,λx q=>?_,λa m' h6 h7 h8=>?_,oX,λx q=>?_⟩
   .rcases M x q with h|⟨rfl,e⟩|⟨rfl,e⟩
    .exact(‹bu7 l j p›).of x h
    .grind [Hid.out]
    grind [Hid.out]
   .grind [Hid.out,bu7.all]
   grind [bu7.nz]
  have cP:=s.out.2.1.len;have El:=s.out.1;have Ym:n<=800000:=oX
  clear cP El;have f:=ag s.out.2.1;by_cases O:m.bJ=0
  case pos=>
   by_cases S:m.lQ=0
   case pos=>
    go_wp2;exact⟨⟨j+1,g,c,n,d,oX,cj8,ii,K,s.out.1,L d d f (λx q=> .inl q) (λx q=>q) (λh=>aX O h) f.out.sorted (by have:=f.out.len;omega),s.out.2.2⟩,cj2⟩
   go_wp2_with (go_at_call 182;refine(D d ⟨m.lQ,2,j⟩ g c n _ s.out.1 s.out.2.2 (by have:=s.out.1;omega)).mono ?_;rintro e Z ⟨B,C,r,rfl,t,z,J⟩;have o:=ag (dO t z);clear t z);refine⟨⟨j+1,B,C,_,r,oX,cj8,ii,K.trans J,ii,L r d f (λx q=>?_) (λx q=>o.out.1.mem.2 (.inr q)) (λh=>aX O h) (o.out.1.sorted f.out.sorted) (by have:=f.out.len;have:=o.out.1.len;omega),o.out.2⟩,cj2⟩;rcases o.out.1.mem.1 q with h|h
   all_goals grind
  by_cases S:m.lQ=0
  case pos=>
   go_wp2_with (go_at_call 182;refine(D d ⟨m.bJ,1,j⟩ g c n _ s.out.1 s.out.2.2 (by have:=s.out.1;omega)).mono ?_;rintro e Z ⟨B,C,r,rfl,t,z,J⟩;have o:=ag (dO t z);clear t z);refine⟨⟨j+1,B,C,_,r,oX,cj8,ii,K.trans J,ii,L r d f (λx q=>?_) (λx q=>o.out.1.mem.2 (.inr q)) (λh=>o.out.1.mem.2 (.inl rfl)) (o.out.1.sorted f.out.sorted) (by have:=f.out.len;have:=o.out.1.len;omega),o.out.2⟩,cj2⟩;rcases o.out.1.mem.1 q with h|h
   all_goals grind
  go_upto_region 7 with(go_at_call 182;refine(D d ⟨m.bJ,1,j⟩ g c n _ s.out.1 s.out.2.2 (by have:=s.out.1;omega)).mono ?_;rintro e Z ⟨B,C,r,rfl,t,z,J⟩;have o:=ag (dO t z);clear t z)
  go_wp2_with (go_at_call 182;refine(D r ⟨m.lQ,2,j⟩ B C _ _ ii o.out.2 (by have:=s.out.1;have:=o.out.1.len;omega)).mono ?_;rintro e w6 ⟨g2,c2,r2,rfl,t,z,l6⟩;have u:=ag (dO t z);clear t z);refine⟨⟨j+1,g2,c2,_,r2,oX,cj8,ii,(K.trans J).trans l6,ii,L r2 d f (λx q=>?_) (λx q=>u.out.1.mem.2 (.inr (o.out.1.mem.2 (.inr q)))) (λh=>u.out.1.mem.2 (.inr (o.out.1.mem.2 (.inl rfl)))) (u.out.1.sorted (o.out.1.sorted f.out.sorted)) (by have:=f.out.len;have:=o.out.1.len;have:=u.out.1.len;omega),u.out.2⟩,cj2⟩;rcases u.out.1.mem.1 q with h|h
  .grind
  rcases o.out.1.mem.1 h with h|h;all_goals grind
 go_wp2;obtain⟨G,h,E⟩:=F.out;subst G;exact HQ _ _ _ _ ⟨⟨h.sorted,h.of,λa m M=>h.all a m (by have:=um M;omega) M⟩,h.nz⟩ E
variable{Pb:Nat->Prop}
def bc2:nR go:=⟨1,λP w l d=>∃a c,d=[.slice a l c]/\ix opE P w a l,by rintro _ _ _ _ ⟨_,_,rfl,_⟩;rfl,by rintro _ _ _ _ ⟨_,_,rfl,_⟩;simp[Value.oneCell'],by rintro _ _ _ _ _ h ⟨a,c,rfl,b⟩;exact⟨a,c,ii,b.Ur h⟩,by rintro _ _ _ _ _ h ⟨a,c,rfl,b⟩;exact⟨a,c,ii,b.mono (by decide) h⟩⟩
def mdE:nR (Int×Nat):=⟨2,λ_ _ x a=>a=[I x.1,I x.2],by rintro _ _ _ _ rfl;rfl,by rintro _ _ _ _ rfl;simp[Value.oneCell'],λ_ h=>h,λ_ h=>h⟩
theorem bA9:XS 47 52 3:=⟨by kernel_rfl,by kernel_rfl⟩
theorem bl2{t2:TypeId}{j k l m n:Value}(h:v.heap[b]?=some (.cells #[a,j,k,l,m,n] t2 (0,0)))(c d e f g i:Value):((((((v.setCell b c).setCell (b,1) d).setCell (b,2) e).setCell (b,3) f).setCell (b,4) g).setCell (b,5) i).heap[b]?=some (.cells #[c,d,e,f,g,i] t2 (0,0)):=
 ms _ b 5 _ _ i (ms _ b 4 _ _ g (ms _ b 3 _ _ f (ms _ b 2 _ _ e (ms _ b 1 _ _ d (ms v b 0 _ _ c h)))))
theorem heap_drew{o:Option Obj}(h:v.heap[b]?=o):v.drew.heap[b]?=o:=h
theorem Own.keep{α:Type}{E:nR α}{e:TypeId}{v:Value}{c:List α}(h:Own E e Pb u w' f v c)(l:kL w' w2)(k:∀g,w'.heap.size<=g->g<f->v.ownBlock=g->w2.heap[g]?=f.heap[g]?):Own E e Pb u w' w2 v c:=by
 obtain⟨o,m,a,n,d⟩:=h;refine⟨l,m,a,n,d.1,d.2.imp id λ⟨g,cap,b,e,i,j,r⟩=>⟨g,cap,b,e,i,(k g i (dh j).1 (by rw[e];rfl)).trans j,r⟩⟩
theorem Own.bB0{α:Type}{E:nR α}{e:TypeId}{W:World}{v:Value}{c:List α}(h:Own E e Pb u w' f v c)(k:kL w2 w')(l:kL w2 W)(m:∀g,w'.heap.size<=g->g<f->W.heap[g]?=f.heap[g]?):Own E e Pb u w2 W v c:=by
 obtain⟨p,n,a,o,d⟩:=h;refine⟨l,n,a,o,d.1,d.2.imp id λ⟨g,cap,b,e,i,j,r⟩=>⟨g,cap,b,e,jm k.size i,(m g i (dh j).1).trans j,r⟩⟩
theorem bB1{c1:dl}{t1:TypeId}(h:(v.alloc (c1,t1)).drew=u):kL v u/\Hid (u.heap[v.heap.size]?=some (.cells c1 t1 (0,0))):=by
 subst h;exact⟨sX,heap_drew (dP)⟩
theorem bi4{a:List (Int×Nat)}{x:Int×Nat}(h:a[b]?=x)(c:Int):V.Lg (a.take (b+1)) c=if x.1<c then(x.2:Int)else V.Lg (a.take b) c:=by
 unfold V.Lg;rw[as4,h,List.foldl_append];rfl
theorem bh2(p:be)(m:Ex)(k:List (Int×Nat))(o:cu)(pa ma:am)(pc mc:Nat)(r w:World)(HP:ix bc2 Pb r pa p)(HM:ix mdE Pb r ma k)(hF:aV2 Pb r w)(t:V.Ug p m=o)(hg:0<=m.g/\0<=m.op):gt 69 #[(pa,p.length,pc),.agg (LM m),(ma,k.length,mc)] w λe w'=>∃x H,e=qG (V.Cu o (V.Lg k m.call)) x H/\Own wX 52 Pb r w w' (x,o.cases.length,H) (V.Cu o (V.Lg k m.call)).cases:=by
 have xS:=HP.1;have RH:=HM.1;obtain⟨G,hG⟩:=pz hg.1;obtain⟨J,hJ⟩:=pz hg.2;unfold V.Ug at t;rw[hG,hJ]at t;simp only[oU]at t;obtain⟨l,hl,t⟩:=cI.1 t;have a0:=um hl;have a2:=um t;obtain⟨b,off,cs,rfl,⟨ra,rc,rfl,mA⟩,R,R0⟩:=(HP.to2 hF).get (n:=1) hl;have PV:=mA.1;obtain⟨b2,a3,Ru,rfl,⟨x,H,rfl,fa⟩,R2,a7⟩:=(mA.to2 hF).get (n:=6) t;have k0:∀W,kL w W->W.cell? ⟨b,off+G,none⟩=some (.slice (some ⟨b2,a3,none⟩) l.length rc):=λW hW=>by have:=R0 W hW;rw[at8]at this;exact this
 obtain⟨BJ,Fc,M⟩:=ij fa HM hF;have oF:=fa.1;obtain⟨lp,N⟩:∃n,n=p.length:=⟨_,ii⟩;obtain⟨ll,J8⟩:∃n,n=l.length:=⟨_,ii⟩;rw[<-N]at xS a0 ⊢;rw[<-J8]at k0 a2 PV;clear HP HM hF R R0 hl t mA fa N J8 hg;go_enter func69,ntmps69;go_upto_region 1 with fail
 generalize hW:World.alloc (World.alloc w _) _=q;obtain⟨L,S,⟨K1,_⟩,⟨K2,F2⟩,HX⟩:=aa0 hW;have HS:=ag S;have kg:∀W,kL q W->W.cell? w.heap.size=I G:=λW h=>by rw[<-hG];exact K1 W h 0 sX
 have kj:∀W,kL q W->W.cell? (w.heap.size,1)=I J:=λW h=>by rw[<-hJ];exact K1 W h 1 sX
 have kc:∀W,kL q W->W.cell? (w.heap.size,2)=I m.call:=λW h=>K1 W h 2 sX
 clear hW S hG hJ K1;go_region;generalize hW:World.drew (World.alloc q _)=W2;obtain⟨z,uV⟩:=bB1 hW;have O:=L.trans z;clear hW;go_wp2;go_loopw [8,10,25] (λc _ i wr=>∃(j:Nat),c=I (V.Lg (k.take j) m.call)/\j<=k.length/\i=.int .i64 j/\kL W2 wr) (λ_ _ i _=>k.length-(intOf i).toNat)
 case atStart=>exact⟨0,ii,wn _,ii,sX⟩
 obtain⟨j,rfl,hj,rfl,f⟩:=hrel;by_cases dD:j<k.length
 .obtain⟨u,A⟩:∃u,k[j]?=some u:=⟨_,fv dD⟩;have HT:=ag (bi4 A m.call);obtain⟨U,s,C,rfl,rfl,X,D⟩:=(Fc.out.to2 M).get (n:=2) A;clear A;have oH:=O.trans f;have Y:=z.trans f;go_upto_region 6 with fail
  generalize hW:World.alloc wr _=W3;obtain⟨F,Q,⟨K3,_⟩,_⟩:=bN5;have d:=f.trans F;have T:=z.trans d;clear hW Q;by_cases h1:u.1<m.call
  .go_wp2;exact⟨⟨j+1,by rw[HT.out,aF h1],oX,cj8,d⟩,cj2⟩
  go_wp2;exact⟨⟨j+1,by rw[HT.out,aE h1],oX,cj8,d⟩,cj2⟩
 rw[yl oX];obtain⟨d,vN⟩:∃n,n=V.Lg k m.call:=⟨_,ii⟩;rw[<-vN];have a4:=ag vN;have Q:=ag λ(a:Int) (W:World)=>bu4 a d W
 have oH:=O.trans f;have HB:=ag (kL.heap f uV);obtain⟨K4,F4⟩:=aI3 (kL.heap f uV);have T:=z.size;clear vN;by_cases U:2<=o.ai/\o.ai<=5
 case' pos=>
  have WG:Hid ((V.Cu o d).ch=V.cut o.ch d):=(aF U);have jg:=U.1;have jO:=U.2;clear U;go_upto_region 11 with(go_at_call 128;refine(Q _ _).mono ?_;rintro e w5 ⟨rfl,X⟩)
  generalize hZ:World.setCell w5 _ _=Z;have HV:Hid (Z.heap[q.heap.size]?=some (.cells #[I o.ai,I (V.Cu o d).ch,I o.n,I o.v,(x,o.cases.length,H),B o.dG] 49 (0,0))):=by rw[WG.out,<-hZ];exact ms _ _ 1 _ _ _ (kL.heap X HB)
  have s:kL q Z:=by rw[<-hZ];exact Gv ((z.trans f).trans X) cG _
  clear hZ X f HB K4 F4 T oH
 case' neg=>
  have WG:Hid ((V.Cu o d).ch=o.ch):=(aE U);go_upto_region 11 with fail
 all_goals
  try(obtain⟨Z,rfl⟩:=dC (wr);have HV:Hid (Z.heap[q.heap.size]?=some (.cells #[I o.ai,I (V.Cu o d).ch,I o.n,I o.v,(x,o.cases.length,H),B o.dG] 49 (0,0))):=(by rw[WG.out];exact HB);have s:kL q Z:=z.trans f;clear f HB K4 F4 T oH)
  have Y:=L.trans s;have lc:0<=1:=oX
  obtain⟨K5,F5⟩:=aI3 HV;clear z uV Fc kg kj kc;go_wp2;go_loopw [11,13,54] (λv _ i wr=>∃(j:Nat) (a:am) (c n:Nat),j<=o.cases.length/\i=.int .i64 j/\v=.slice a n c/\kL Z wr/\Hid (n=j/\Own wX 52 Pb r Z wr v ((o.cases.take j).map λc=>{c with ch:=V.cut c.ch d}))) (λ_ _ i _=>o.cases.length-(intOf i).toNat)
  case atStart=>exact⟨0,_,_,_,wn _,ii,ii,sX,ii,Own.ofE sX (aA4) cG⟩
  obtain⟨j,a,c,n,hj,rfl,rfl,f,C⟩:=hrel;by_cases dD:j<o.cases.length
  .obtain⟨u,A⟩:∃u,o.cases[j]?=some u:=⟨_,fv dD⟩;have HT:Hid ((o.cases.take (j+1)).map (λc=>{c with ch:=V.cut c.ch d})=(o.cases.take j).map (λc=>{c with ch:=V.cut c.ch d})++[{u with ch:=V.cut u.ch d}]):=by show _=_;rw[as4,A];simp
   have hm:Hid (((o.cases.take j).map (λc=>{c with ch:=V.cut c.ch d})).length=j):=(by show _=_;rw[ko,tC];omega);obtain⟨b6,a8,a9,rfl,rfl,R6,ab⟩:=(BJ.out.to2 M).get (n:=3) A;clear A;have ad:=Y.trans f;go_upto_region 15 with fail
   generalize hW:World.alloc wr _=W7;obtain⟨L7,S7,⟨K7,F7⟩,FO⟩:=bN5;have F:Hid (Own wX 52 Pb r Z W7 (.slice a n c) ((o.cases.take j).map λc=>{c with ch:=V.cut c.ch d})):=(by rw[<-hW];exact C.out.2.alloc _);have b7:=f.trans L7;clear hW S7;go_upto_region 16 with(go_at_call 128;refine(Q _ _).mono ?_;rintro e w8 ⟨rfl,D⟩)
   have b8:=b7.trans D;have cM:Hid (wr.heap.size<=wr.heap.size/\Z.heap.size<=wr.heap.size):=⟨rx _,f.size⟩;generalize hW:World.setCell w8 _ _=W9;have a5:Hid (W9.heap[wr.heap.size]?=some (.cells #[B u.cF,I (V.cut u.ch d),I u.v] 52 (0,0))):=(by rw[<-hW];exact ms _ _ 1 _ _ _ (kL.heap D FO));have b9:kL Z W9:=(by rw[<-hW];exact Gv b8 cM.out.2 _);have a6:Hid (Own wX 52 Pb r Z W9 (.slice a n c) ((o.cases.take j).map λc=>{c with ch:=V.cut c.ch d})):=C.out.2.keep b9 λg h1 h2 _=>by rw[<-hW,fQ ci9];exact(Below.block (L7.trans D) g h2)
   obtain⟨K9,F9⟩:=aI3 a5;clear hW D b8 FO K7 F7 F b7 C;go_wp2_with (refine ae2 ii λK hK=>aY0 (E:=wX) (P:=Pb) (wF:=r) (w0:=Z) (xs:=(o.cases.take j).map λc=>{c with ch:=V.cut c.ch d}) (y:={u with ch:=V.cut u.ch d}) (.tmp 63) (.tmp 65) 47 52 rfl bA9 dX ii (by exact a6.out.alloc _) ii cu9 cw9 (by have:=hm.out;omega) λv1 W5 H5 k5=>hK _ _ ?_;obtain⟨a1,c1,rfl⟩:=bN8;have X:=H5.1;have Yh:=ag H5;clear H5 k5);exact⟨⟨j+1,_,_,_,oX,cj8,ii,X,ii,by rw[HT.out];have h:=Yh.out;rw[aU7,hm.out]at h;exact h⟩,cj2⟩
  obtain rfl:j=o.cases.length:=oX
  have hm:=C.out.1;have Rr:Hid (Own wX 52 Pb r Z wr (.slice a n c) (V.Cu o d).cases):=by have h:=C.out.2;rw[yl cG]at h;exact h
  have q1:=HS.out;have q2:=s.size;have q3:=f.size;have HE:=ag (dO q1 (dO q2 q3));clear q1 q2 q3 C;have y1:=s.trans f;have y2:=λv=>Gv y1 cG (a:=(q.heap.size,4)) v
  have y0:=λv=>L.trans (y2 v)
  subst hm;go_wp2;refine bj2 ii ii (bl2 (kL.heap (y2 _) HX) _ _ _ _ _ _) bx9 ?_;rw[a4.out]at Rr ⊢;have D:w<=w.heap.size+1:=aj5 _;refine⟨a,c,by show _=Ending.returned (.agg #[I o.ai,I (V.Cu o (V.Lg k m.call)).ch,I o.n,I o.v,.slice a (List.length (o.cases.map _)) c,B o.dG]);rw[ko],Rr.out.bB0 Y (Gv (Gv (Gv (Gv (Gv (Gv (y0 _) D _) D _) D _) D _) D _) D _) λg h1 h2=>?_⟩;have h3:=HE.out;have F:w.heap.size+1≠g:=oX
  have e2:q.heap.size≠g:=by have:=(dh HV).1;omega
  rw[fQ (dE F),fQ (dE F),fQ (dE F),fQ (dE F),fQ (dE F),fQ (dE F),fQ (dE e2)]
variable{Pb:Nat->Prop}
theorem ba7{b:Int}(h:Y<=R/\R<=b)(a: -1000<=Y:=by decide)(c:b<=1000:=by decide):pW R:=by unfold pW;omega
theorem bn7{d:List Case}(H:ix wX Pb u A d)(f:∀c∈d,pW c.ch/\pW c.v):gW u A d:=
 ⟨by have:=H.1;omega,λk c e=>by obtain⟨b,off,g,rfl,rfl,R,i⟩:=H.get (n:=3) e;exact⟨b,off,ii,i u (kb _),R u (kb _) 1 dX,R u (kb _) 2 dX,f c (lf e)⟩⟩
theorem bu8{l:go}(H:ix opE Pb u A l)(f:∀o∈l,yF o):kC u A l:=
 ⟨by have:=H.1;omega,λj o e=>by obtain⟨b,off,g,rfl,⟨x,i,rfl,d⟩,R,k⟩:=H.get (n:=6) e;have h:=f o (lf e);unfold yF at h;simp only[qs,lm,ak6]at h;obtain⟨⟨⟨⟨⟨⟨⟨⟨⟨⟨⟨⟨⟨m,p⟩,q⟩,r⟩,s⟩,t⟩,v⟩,y⟩,_⟩,_⟩,_⟩,_⟩,_⟩,z⟩:=h;refine⟨b,off,x,i,ii,k u (kb _),R u (kb _) 1 dX,R u (kb _) 2 dX,R u (kb _) 3 dX,R u (kb _) 4 dX,R u (kb _) 5 dX,bn7 d λc d=>?_,ba7 ⟨m,p⟩,ba7 ⟨q,r⟩,ba7 ⟨s,t⟩,ba7 ⟨v,y⟩⟩;have h:=z c d;unfold qg at h;simp only[qs,lm]at h;exact⟨ba7 ⟨h.1.1.1.1,h.1.1.1.2⟩,ba7 ⟨h.1.1.2,h.1.2⟩⟩⟩
theorem bq4{p:be}(H:ix bc2 Pb u A p)(c:im p):aH1 u A p:=
 ⟨by have:=H.1;omega,λi l d=>by obtain⟨b,off,e,rfl,⟨x,f,rfl,g⟩,R,j⟩:=H.get (n:=1) d;have h:=j u (kb _);rw[at8]at h;unfold im at c;simp only[qs,lm,ak6]at c;exact⟨b,off,x,f,ii,h,bu8 g (c.1.1 l (lf d)).1⟩⟩
def InP(p:be)(m:Ex):Prop:=∃(G J:Nat) (row:go),m.g=G/\m.op=J/\p[G]?=row/\J<row
theorem bl3(p:be)(l:List Ex)(y z:am)(H K:Nat)(w:World)(A:ix bc2 Pb w y p)(C:ix zA Pb w z l)(L:im p)(c:∀m∈l,∃(G J:Nat) (row:go),m.g=G/\m.op=J/\p[G]?=row):gt 123 #[(y,p.length,H),(z,l.length,K)] w λe a=>∃b:Bool,e=b/\kL w a/\(b->∀m∈l,InP p m):=by
 have xS:=A.1;have RH:=C.1;have HR:Hid (∀W,kL w W->gt 22 #[(y,p.length,H)] W λe a=>e=Value.bool true/\kL W a):=λW hW=>(Ad p _ ii y H W (bq4 (A.later hW) L)).mono λe a h=>⟨by rw[<-L];exact h.1,h.2⟩
 have pI:Hid (∀(m:Ex) W v,v=.agg (LM m)->gt 180 #[v] W λe a=>∃b:Bool,e=B b/\kL W a):=λm W v hv=>by rw[hv];exact bn5 m W
 have XH:Hid (∀(g M:Int) W,kL w W->gt 181 #[(z,l.length,K),I g,I M] W λe a=>∃(m:Ex) (n:Nat),e=Value.tuple #[.agg (LM m),I n]/\kL W a):=λg M W hW=>bq3 l g M z K W (C.later hW)
 obtain⟨N,O,HM⟩:=ij A C c;obtain⟨Q,S⟩:∃Q:Ending->World->Prop,Q=λe a=>∃b:Bool,e=.returned (B b)/\kL w a/\(b=true->∀m∈l,InP p m):=⟨_,ii⟩
 have q:Hid (∀(b:Bool) a,kL w a->(b=true->∀m∈l,InP p m)->Q (B b) a):=λb a h h2=>by rw[S];exact⟨b,ii,h,h2⟩
 have D:Hid (false=true->∀m∈l,InP p m):=λh=>ck3
 rw[<-S];clear S A C L c;go_enter func123,ntmps123;go_upto_region 4 with(go_at_call 22;refine(HR _ sX).mono ?_;rintro e w1 ⟨rfl,l1⟩)
 .exact q _ _ l1 (λh=>by first|cases h|simp_all)
 go_loopw [6,7,8,9,10,21] (λ_ _ _ _ _ i wr=>∃j:Nat,j<=l.length/\i=.int .i64 j/\kL w wr/\Hid (∀(k:Nat) m,k<j->l[k]?=some m->InP p m)) (λ_ _ _ _ _ i _=>l.length-(intOf i).toNat)
 case atStart=>exact⟨0,wn _,ii,l1,λk m h=>oX⟩
 obtain⟨j,hj,rfl,hb,Ry⟩:=hrel;by_cases dD:j<l.length
 .obtain⟨m,c⟩:∃m,l[j]?=some m:=⟨_,fv dD⟩;obtain⟨G,J,row,hG,hJ,E⟩:=HM.out m (lf c)
  have T:Hid (J<row.length->∀(k:Nat) m,k<j+1->l[k]?=some m->InP p m):=λd k m' U h=>by
   by_cases e:k=j
   .subst e;rw[c]at h;cases h;exact⟨G,J,row,hG,hJ,E,d⟩
   exact Ry k m' oX h
  have a1:=um E;obtain⟨b,off,cs,rfl,rfl,R,R0⟩:=O.out.get (n:=13) c;obtain⟨b2,X,Ru,rfl,⟨ra,rc,rfl,rS⟩,R2,s⟩:=N.out.get (n:=1) E;have k0:∀W,kL w W->W.cell? ⟨b2,X+G,none⟩=some (.slice ra row.length rc):=λW hW=>by have:=s W hW;rw[at8]at this;exact this
  have Y:=rS.1;obtain⟨t,u⟩:∃n,n=row.length:=⟨_,ii⟩;rw[<-u]at k0 Y T;clear c E rS R2 s u;go_upto_region 6 with fail
  generalize hW:World.alloc wr _=r;obtain⟨L2,S2,⟨Z,_⟩,HX⟩:=bN5;have f:=bN6;have a2:=f.size;have kg:∀W,kL r W->W.cell? ⟨wr.heap.size,0,none⟩=I G:=λW h=>(Z W h 0 sX).trans (by rw[<-hG];rfl)
  have kj:∀W,kL r W->W.cell? ⟨wr.heap.size,1,none⟩=I J:=λW h=>(Z W h 1 sX).trans (by rw[<-hJ];rfl)
  have kc:∀W,kL r W->W.cell? ⟨wr.heap.size,2,none⟩=some (I m.call):=λW h=>Z W h 2 sX
  have up:∀W,kL r W->kL w W:=λW h=>f.trans h
  have q1:decide ((G:Int)<0)=false:=ak9 oX;have q2:decide (p.length<=G)=false:=ak9 oX;have q3:decide ((p.length:Int)<=(G:Int))=false:=ak9 oX;have q4:decide ((J:Int)<0)=false:=ak9 oX;clear hW S2 R R0;by_cases d:J<t
  case neg=>
   have q5:decide (t<=J)=true:=az4 oX;have q6:decide ((t:Int)<=(J:Int))=true:=az4 oX;go_region;go_wp2;exact q _ _ (m8 f) D
  have q5:decide (t<=J)=false:=ak9 oX;have q6:decide ((t:Int)<=(J:Int))=false:=ak9 oX
  go_region_held3 (λW=>kL r W) (repeat(first|with_reducible exact kb _|with_reducible exact kQ|with_reducible refine m8 ?_))
   (first|(go_at_call 180;refine(pI m _ _ cj4).mono ?_;rintro e w3 ⟨bs,rfl,l3⟩;have kQ:kL r w3:=kL.trans sX l3;clear l3))
  have F:=f.trans kQ;have a3:=ag F
  cases bs with
  |false=>
   go_wp2;exact q _ _ F D
  |true=>
   go_upto_region 9 with(go_at_call 181;refine(XH _ _ _ F).mono ?_;rintro e w5 ⟨m1,n1,rfl,l5⟩)
   generalize hW:World.alloc w5 _=W5;obtain⟨L5,S5,⟨K5,_⟩,_⟩:=bN5;have a0:=(kQ.trans l5).trans L5;have o:=(F.trans l5).trans L5;clear hW S5 K5;by_cases h1:n1=1
   case neg=>
    go_wp2;exact q _ _ o D
   by_cases h2:0<J
   case neg=>
    go_wp2;exact⟨⟨j+1,oX,cj8,o,T d⟩,cj2⟩
   go_upto_region 13 with(go_at_call 181;refine(XH _ _ _ o).mono ?_;rintro e w6 ⟨m2,n2,rfl,l6⟩)
   generalize hW:World.alloc w6 _=W6;obtain⟨L6,S6,⟨K6,_⟩,_⟩:=bN5;have a4:=(a0.trans l6).trans L6;have x:=(o.trans l6).trans L6;clear hW S6;go_wp2
   all_goals first
    |exact q _ _ x D
    |exact⟨⟨j+1,oX,cj8,x,T d⟩,cj2⟩
 go_wp2;exact q true _ hb (λ_ m c=>by obtain⟨k,U⟩:=ae3.1 c;exact Ry k m (by have:=um U;omega) U)