import Derived.Test.YtadifmnmfnihdaaGreatA19
set_option linter.all false
set_option maxRecDepth 100000
set_option maxHeartbeats 40000000
namespace Go.Proofs.YtadifmnmfnihdaaGreat
open Go.RowKit Mach Go.Proofs.Tryz
variable{u f w' w2:World}{b n:Nat}{R Y:Int}{L:cu}{a:Value}{F us c2:dl}
namespace V
section
variable{α:Type}{l:List α}
theorem mO{a:α}(h:idx l R=a):0<=R/\l[R.toNat]?=a:=by
 unfold idx at h;split at h
 .exact⟨uX,h⟩
 cases h
theorem bx5{a:α}(b:0<=R)(h:l[R.toNat]?=a):idx l R=a:=by unfold idx;rw[aF b];exact h
theorem Qf{a:α}(h:l[b]?=a):l.set b a=l:=by
 apply ad9;intro j;by_cases e:b=j
 .subst e;rw[nH (um h),h]
 rw[oA e]
end
theorem bj0(a b:Int)(l:List Wt):(out a (out b l)).length<=l:=jm (ar9 _ _) (ar9 _ _)
theorem ba8.refl(a:List Ch):ba8 a a:=⟨ii,λ_ _ h _=>h⟩
theorem aU2.side{M:q9}{r:nP}{l:List Ch}{a:Case}{c:Ch}(b:Xq L R=a)(f:idx M.MP (a.ch-1)=c)(F:aU2 M L R r l):∃c1,l=M.MP.set (a.ch-1).toNat c1/\c1.cap=c.cap/\c1.pP=c.pP/\(c.pP\/a.cF/\c1.len=c.len+1\/a.cF=false/\c1.len+1=c.len\/a.cF=false/\c.len=0):=by
 have k:L.ai≠1/\L.ai≠6:=by unfold Xq at b;split at b<;>grind
 have m:=(mO f).2
 cases F with
 |still h=>
  have:=h a c b f;exact⟨c,(Qf m).symm,ii,ii,by cases e:a.cF<;>simp_all⟩
 |make h=>exact aX h k.1
 |close _ h=>exact aX h k.2
 |cF s d e g n i j o=>
  rw[b]at e;cases e;rw[f]at i;cases i;exact⟨_,ii,ii,ii,.inr (.inl ⟨g,ii⟩)⟩
 |recv s d e g n i j o=>
  rw[b]at e;cases e;rw[f]at j;cases j;exact⟨_,ii,ii,ii,.inr (.inr (.inl ⟨g,ci9⟩))⟩
theorem bh7{M M1:q9}{o:cu}{v w:nP}{a b:Case}{c:Ch}{l:List Ch}(e:Xq L R=a)(f:Xq o Y=b)(x:a.cF≠b.cF)(p:a.ch=b.ch)(g:idx M.MP (a.ch-1)=c)(y:a.cF=false->c.len≠0)(q:aU2 M L R v M1.MP)(r:aU2 M1 o Y w l):ba8 M.MP l:=by
 obtain⟨c1,i,z,A,B⟩:=q.side e g;obtain⟨j,m⟩:=mO g;have s:idx M1.MP (b.ch-1)=some c1:=by rw[<-p];exact bx5 j (by rw[i,nH (um m)])
 obtain⟨c2,t,C,D,E⟩:=r.side f s;rw[t,i,<-p,my];refine⟨sX,λk d n F=>?_⟩;by_cases u:(a.ch-1).toNat=k
 .subst u;rw[m]at n;cases n;rw[nH (um m)]
  have G:c2.len=c.len:=by
   clear q r e f g s i t
   cases e:a.cF<;>cases f:b.cF<;>simp_all<;>omega
  cases c2;cases c;simp_all
 rw[oA u];exact n
end V
def Ob(a:Nat->Prop)(b w:World)(x k:Nat):Prop:=k<b/\a k\/w<=k/\k≠x
section
variable{Pb:Nat->Prop}{W1 Wd:World}
theorem Ob.ltr(hF:aV2 Pb u f)(l:kL f w'):aV2 (Ob Pb u f n) u w':=⟨jm hF.1 l.size,λk a b=>(hF.trans l).2 k a (by rcases b with h|h;exact h.2;have:=hF.1;omega)⟩
theorem Ob.up(a:f<=W1.heap.size)(b:n<W1)(k:Nat)(c:W1<=k):Ob Pb u f n k:=.inr ⟨by omega,by omega⟩
theorem Ob.kept(hF:aV2 Pb u f)(l:kL f Wd)(e:kL Wd w2)(s:f<=n/\n<Wd){v:Value}(h:Kept Pb u f ((w2.setCell n a).setCell (n,1) v) w'):Kept (Ob Pb u f n) Wd Wd w2 w':=by
 have g:∀k,f.heap.size<=k->k<w2.heap.size->k≠n->w'.heap[k]?=w2.heap[k]?:=λk d b c=>(h.2 k d (by simpa[World.setCell]using b)).trans (aS2 (dE c))
 have t:=e.size;have y:=l.size
 have j:Wd.heap.size<=w'.heap.size:=by
  have i:=h.2 (w2.heap.size-1) oX cx0;have m:w2.heap.size-1<((w2.setCell ⟨n,0,none⟩ a).setCell ⟨n,1,none⟩ v).heap.size:=cx0
  rw[xL m]at i;have:=(dh i).1;omega
 refine⟨⟨j,λk o r=>?_⟩,λk d b=>g k oX b oX⟩;rcases r with⟨p,q⟩|⟨p,q⟩
 .exact(h.1.2 k p q).trans ((hF.trans l).2 k p q).symm
 exact(g k p oX q).trans (Below.block e k o)
theorem Ob.of{a b:World}(e:u<=f.heap.size)(h:Kept Pb u a b w'):Kept (Ob Pb u f n) u a b w':=⟨⟨h.1.1,λk c d=>h.1.2 k c (by rcases d with h|h;exact h.2;omega)⟩,h.2⟩
end
variable{Pb:Nat->Prop}
theorem bB5{w:World}{c1 c3 c4:dl}{t1 t2 t3 t4 t5 t6:TypeId}(h:(((((w.alloc (c1,t1)).alloc (c2,t2)).alloc (c3,t3)).alloc (c4,t4)).alloc (F,t5)).alloc (us,t6)=u):∃g,kL w g/\g=w.heap.size+5/\u=w.heap.size+6/\kL g u/\qf g w c1/\qf g (w+1) c2/\qf g (w+1+1) c3/\qf g (w+1+1+1) c4/\qf g (w+1+1+1+1) F/\qf u (w+1+1+1+1+1) us/\Hid (u.heap[w.heap.size+1+1+1+1+1]?=some (.cells us t6 (0,0))):=by
 obtain⟨l,s,a,b,c,_⟩:=bR2;generalize n:((w.alloc (.cells c1 t1)).alloc (.cells c2 t2)).alloc (.cells c3 t3)=Y at*;obtain⟨i,j,d,e,_⟩:=aa0 (w:=Y) (c1:=c4) (t1:=t4) (c2:=F) (t2:=t5) ii;obtain⟨_,m,f,k⟩:=Z9 h;subst h;rw[j,s]at f k;rw[s]at d e;exact⟨_,l.trans i,by rw[j,s],by rw[m,j,s],sX,a.later i,b.later i,c.later i,d,e,f,k⟩
theorem br5(M:V.q9)(m k:Ex)(o q:cu)(x y G H:am)(z D co K:Nat)(p w:World)(T:Fa Pb p x y M)(U:ix wX Pb p G o.cases)(Y:ix wX Pb p H q.cases)(hF:aV2 Pb p w)(hP:∀k,w.heap.size<=k->Pb k)(hn:o.n<=1000/\q.n<=1000):gt 126 #[.agg #[(x,M.MP.length,z),(y,M.ws.length,D)],.agg (LM m),qG o G co,.agg (LM k),qG q H K] w (PMd Pb p w λf=>V.ba8 M.MP f.MP/\f.ws<=M.ws.length/\∀u,u∈f.ws↔u∈M.ws/\u.g≠m.g/\u.g≠k.g):=by
 have aq:Hid (∀W v,v=qG o G co->kL w W->gt 13 #[v,I m.fire] W (bb0 W o m.fire)):=λW v F hW=>by rw[F];exact aR3 o m.fire W G co (U.Ur (hF.trans hW))
 have ar:Hid (∀W v,v=qG q H K->kL w W->gt 13 #[v,I k.fire] W (bb0 W q k.fire)):=λW v F hW=>by rw[F];exact aR3 q k.fire W H K (Y.Ur (hF.trans hW))
 have MF:Hid (∀ch W,gt 186 #[.agg #[.slice x M.MP.length z,.slice y M.ws.length D],I ch] W (aU1 W (1<=ch/\ch<=M.MP.length))):=λch W=>gJ ch x z T.1.1 W
 have au:Hid (∀W v u,v=qG o G co->u=qG q H K->kL w W->gt 187 #[.agg #[.slice x M.MP.length z,.slice y M.ws.length D],I m.g,v,I m.fire,I k.g,u,I k.fire] W (PMv Pb p W λf=>f=⟨M.MP,V.out k.g (V.out m.g M.ws)⟩)):=λW v u F hu hW=>by rw[F,hu];exact bp4 M m.g m.fire k.g k.fire o q x y G H z D co K p W T U Y (hF.trans hW) λj hj=>hP j (jm hW.size hj)
 have ai:Hid (∀r W v,v=.agg (LM m)->gt 188 #[v,.agg (NX r)] W λe w'=>e=.returned (B (agB m r))/\kL W w'):=λr W v F=>by rw[F];exact bf9 m r W
 have av:Hid (∀r W v,v=.agg (LM k)->gt 188 #[v,.agg (NX r)] W λe w'=>e=.returned (B (agB k r))/\kL W w'):=λr W v F=>by rw[F];exact bf9 k r W
 have hm:∀j,j<p.heap.size->Pb j->(Ob Pb p w (w.heap.size+1+1+1+1+1)) j:=λj a b=> .inl ⟨a,b⟩
 have ak:Hid (∀(b:Bool) W v u,v=(if b then qG o G co else qG q H K)->u=.agg (LM (if b then m else k))->kL w W->w.heap.size+6<=W.heap.size->gt 185 #[.agg #[.slice x M.MP.length z,.slice y M.ws.length D],v,u] W (PMd (Ob Pb p w (w.heap.size+1+1+1+1+1)) p W λf=>∃r,((if b then m else k).re=0\/(if b then m else k).res=r)/\f.ws=V.out (if b then m else k).g M.ws/\V.aU2 M (if b then o else q) (if b then m else k).fire r f.MP)):=λb W v u F hu hW J=>by
  rw[F,hu]
  cases b with
  |true=>exact aY5 M m o x y G z D co p W (T.mono hm) (U.mono dX hm) (Ob.ltr hF hW) (Ob.up oX oX) hn.1
  |false=>exact aY5 M k q x y H z D K p W (T.mono hm) (Y.mono dX hm) (Ob.ltr hF hW) (Ob.up oX oX) hn.2
 have Rt:Hid (∀(b:Bool) (Q:V.q9) x y z D W v u,Fa (Ob Pb p w (w.heap.size+1+1+1+1+1)) W x y Q->v=(if b then qG o G co else qG q H K)->u=.agg (LM (if b then m else k))->kL w W->w.heap.size+6<=W.heap.size->gt 185 #[.agg #[.slice x Q.MP.length z,.slice y Q.ws.length D],v,u] W (PMd (Ob Pb p w (w.heap.size+1+1+1+1+1)) W W λf=>∃r,((if b then m else k).re=0\/(if b then m else k).res=r)/\f.ws=V.out (if b then m else k).g Q.ws/\V.aU2 Q (if b then o else q) (if b then m else k).fire r f.MP)):=λb Q x y z D W v u hM F hu hW J=>by
  rw[F,hu]
  cases b with
  |true=>exact aY5 Q m o x y G z D co W W hM ((U.mono dX hm).Ur (Ob.ltr hF hW)) (kL.ER (kb _)) (Ob.up oX oX) hn.1
  |false=>exact aY5 Q k q x y H z D K W W hM ((Y.mono dX hm).Ur (Ob.ltr hF hW)) (kL.ER (kb _)) (Ob.up oX oX) hn.2
 have hl:=T.1.1;have h1:=U.1;have h2:=Y.1;obtain⟨Fc,HP,Yf,aG⟩:=ia T hP U Y;clear T U Y hP hm;go_enter func126,ntmps126;go_upto_region 1 with fail
 generalize hW:World.alloc (World.alloc (World.alloc (World.alloc (World.alloc (World.alloc w _) _) _) _) _) _=W1;obtain⟨W0,L0,S0,S1,L1,⟨K1,_⟩,⟨K2,_⟩,⟨K3,_⟩,⟨K4,_⟩,⟨K5,_⟩,⟨K6,F6⟩,HX⟩:=bB5 hW;obtain⟨Fe,L⟩:=bL2;clear hW S1 S0;go_upto_region 2 with(go_at_call 13;refine(aq _ _ cj4 L).mono ?_;rintro e w3 ⟨s,ok,rfl,J,l3⟩;have HA:=ag J;clear J)
 generalize hW:World.alloc w3 _=W2;obtain⟨l4,_,⟨K7,_⟩,_⟩:=bN5;have z2:=(L1.trans l3).trans l4;have b2:=l3.trans l4;clear hW;go_upto_region 3 with(go_at_call 13;refine(ar _ _ cj4 (L0.trans z2)).mono ?_;rintro e w5 ⟨r,is,rfl,J,l5⟩;have HB:=ag J;clear J)
 generalize hW:World.alloc w5 _=W3;obtain⟨l6,_,⟨K8,_⟩,_⟩:=bN5;have c3:=l5.trans l6;have z3:=z2.trans c3;have b3:=b2.trans c3;have a3:=L0.trans z3;clear hW;have a0:Hid (∀{W Z:World} {d:dl},kL W1 W->d.getD 10 undef=.pointer (some ⟨w.heap.size+1+1+1+1+1,0,none⟩)->d.getD 11 undef=.bool false->Z=(W.setCell ⟨w.heap.size+1+1+1+1+1,0,none⟩ (.slice x M.MP.length z)).setCell ⟨w.heap.size+1+1+1+1+1,1,none⟩ (.slice y M.ws.length D)->bodyPost prog Tryz.f126 (PMd Pb p w λf=>V.ba8 M.MP f.MP/\f.ws.length<=M.ws.length/\∀u,u∈f.ws↔u∈M.ws/\u.g≠m.g/\u.g≠k.g) .ret ⟨d,[]⟩ Z):=λ{W Z d} h p8 p9 hV=>by subst hV;refine aV4 ii p8 (aw1 (kL.heap h HX) _ _) aR1 ?_;exact⟨x,z,y,D,M,false,by rw[p9],λW h=>Fc.out.Ur h.1,λh=>ck3,aU9 (L.trans h) oX _ _⟩
 cases ok with
 |false=>
  go_wp2;exact a0 b3 ii ii ii
 |true=>
 cases is with
 |false=>
  go_wp2;exact a0 b3 ii ii ii
 |true=>
 go_cut [82]from 26 (λt wx=>∃bb:Bool,t=.bool bb/\kL W3 wx/\Hid (bb=false->s.cF=true/\r.cF=false/\s.ch=r.ch/\1<=s.ch/\s.ch<=M.MP.length))
 case first=>
  go_wp2_with (go_at_call 186;refine(MF _ _).mono ?_;rintro e i ⟨bb,rfl,J,l⟩;have A:=z3.trans l;have HS:=ag J;clear J)
  all_goals
   go_meet;exact⟨_,ii,by first|assumption|exact kb _,by first|(intro h;cases h;done)|(intro h;have:=HS.out;simp_all)⟩
 obtain⟨bb,rfl,d4,HS⟩:=hcut;have z4:=z3.trans d4;have b4:=b3.trans d4;have c4:=c3.trans d4;have a4:=L0.trans z4
 cases bb with
 |true=>
  go_wp2;exact a0 b4 ii ii ii
 |false=>
  have N:=ag (HS.out sX);clear HS;obtain⟨k0,c,b,off,bx,bn,zs,jg,A,HC,rfl,cR,R,R0,v1,v2⟩:=bc0 Fc.out hF N.out.2.2.2;go_upto_region 6 with fail
  generalize hW:World.alloc wc _=W5;obtain⟨l7,_,⟨K9,_⟩,_⟩:=bN5;have z5:=z4.trans l7;have b5:=b4.trans l7;have a5:=L0.trans z5;clear hW;have xW:Hid (w.heap.size+6<=W5.heap.size/\W0.heap.size=w.heap.size+5):=⟨by have:=b5.size;have:=Fe.out.2;omega,Fe.out.1⟩;rcases Dj:c.cap==0 with _|_
  .rcases v3:(c.len:Int)==c.cap with _|_
   .go_upto_region 17 with(go_at_call 185;refine(ak true _ _ _ cj4 cj4 a5 (by have:=xW.out;omega)).mono ?_;rintro e i ⟨Vl,Jf,BT,JK,M2,one,rfl,A,E,l8⟩;obtain⟨HK,HR⟩:=dA A E;clear A E)
    generalize hW:World.alloc i _=W9;obtain⟨l9,s9,⟨a1,_⟩,_⟩:=bN5;have Zg:=l8.trans l9;have z9:=z5.trans Zg;have b9:=b5.trans Zg;have a9:=a5.trans Zg;clear hW s9
    cases one with
    |false=>
     exact cb2
    |true=>
     have H9:Hid (Fa (Ob Pb p w (w.heap.size+1+1+1+1+1)) W9 Vl BT M2):=HK.out W9 ⟨Ob.ltr hF a9,λj h1 h2=>Below.block l9 j h2⟩;go_wp2_with (go_at_call 185;refine(Rt false M2 Vl BT Jf JK _ _ _ H9 cj4 cj4 a9 cq9).mono ?_;rintro e S ⟨O,a2,a6,a7,M3,a8,rfl,A,E,C⟩;obtain⟨ab,SB⟩:=dA A E;have ad:=b9.trans C;clear A E);refine aV4 ii ii (aw1 (kL.heap (b9.trans C) HX) _ _) aR1 ?_;refine⟨O,a2,a6,a7,M3,a8,ii,λW h=>(ab W (Ob.kept hF a9 C ⟨oX,cq9⟩ h)).mono λj _ hj=>hj.elim (·.2) λhj=>HP j hj.1,λh=>?_,aU9 (a9.trans C) oX _ _⟩;obtain⟨r1,_,w1,f1⟩:=HR.out sX;obtain⟨r2,_,w2,f2⟩:=SB.out h;refine⟨V.bh7 (M:=M) (M1:=M2) (c:=c) (HA.out.trans (aF trivial)) (HB.out.trans (aF trivial)) (by rw[N.out.1,N.out.2.1];decide) N.out.2.2.1 HC.out.2.1 (λh=>by rw[N.out.1]at h;cases h) f1 f2,by rw[w2,w1];exact V.bj0 _ _ _,λu=>?_⟩;rw[w2,w1];simp[V.out]<;>grind
   go_upto_region 13 with(go_at_call 185;refine(ak false _ _ _ cj4 cj4 a5 (by have:=xW.out;omega)).mono ?_;rintro e i ⟨Vl,Jf,BT,JK,M2,one,rfl,A,E,l8⟩;obtain⟨HK,HR⟩:=dA A E;clear A E)
   generalize hW:World.alloc i _=W9;obtain⟨l9,s9,⟨a1,_⟩,_⟩:=bN5;have Zg:=l8.trans l9;have z9:=z5.trans Zg;have b9:=b5.trans Zg;have a9:=a5.trans Zg;clear hW s9
   cases one with
   |false=>
    exact cb2
   |true=>
    have H9:Hid (Fa (Ob Pb p w (w.heap.size+1+1+1+1+1)) W9 Vl BT M2):=HK.out W9 ⟨Ob.ltr hF a9,λj h1 h2=>Below.block l9 j h2⟩;go_wp2_with (go_at_call 185;refine(Rt true M2 Vl BT Jf JK _ _ _ H9 cj4 cj4 a9 cq9).mono ?_;rintro e S ⟨O,a2,a6,a7,M3,a8,rfl,A,E,C⟩;obtain⟨ab,SB⟩:=dA A E;have ad:=b9.trans C;clear A E);refine aV4 ii ii (aw1 (kL.heap (b9.trans C) HX) _ _) aR1 ?_;refine⟨O,a2,a6,a7,M3,a8,ii,λW h=>(ab W (Ob.kept hF a9 C ⟨oX,cq9⟩ h)).mono λj _ hj=>hj.elim (·.2) λhj=>HP j hj.1,λh=>?_,aU9 (a9.trans C) oX _ _⟩;obtain⟨r1,_,w1,f1⟩:=HR.out sX;obtain⟨r2,_,w2,f2⟩:=SB.out h;refine⟨V.bh7 (M:=M) (M1:=M2) (c:=c) (HB.out.trans (aF trivial)) (HA.out.trans (aF trivial)) (by rw[N.out.1,N.out.2.1];decide) N.out.2.2.1.symm (N.out.2.2.1▸HC.out.2.1) (λ_=>by simp at v3 Dj;omega) f1 f2,by rw[w2,w1];exact V.bj0 _ _ _,λu=>?_⟩;rw[w2,w1];simp[V.out]<;>grind
  go_upto_region 8 with(go_at_call 187;refine(au _ _ _ cj4 cj4 a5).mono ?_;rintro e i ⟨Vl,Jf,BT,JK,M2,v,al,rfl,A,E,l8⟩;obtain⟨HK,HR⟩:=dA A E;have z8:=z5.trans l8;clear A E)
  go_upto_region 10 with fail
  generalize hW:World.alloc (World.alloc (World.alloc i _) _) _=W9;obtain⟨l9,s9,⟨a1,_⟩,⟨aw,_⟩,⟨ax,_⟩,_⟩:=bs0 hW;have Zg:=l8.trans l9;have z9:=z5.trans Zg;have b9:=b5.trans Zg;have a9:=a5.trans Zg;have ay:Hid (w.heap.size+6<=i.heap.size):=by have:=xW.out;have:=l8.size;show _<=_;omega
  have ae:Hid (∀{W Z:World} {d:dl} {ok:Bool},kL W9 W->d.getD 10 undef=.pointer (some ⟨w.heap.size+1+1+1+1+1,0,none⟩)->d.getD 11 undef=.bool ok->(ok=true->al=true)->(Z=(W.setCell ⟨w.heap.size+1+1+1+1+1,0,none⟩ (.slice Vl M2.MP.length Jf)).setCell ⟨w.heap.size+1+1+1+1+1,1,none⟩ (.slice BT M2.ws.length JK)\/Z=((W.setCell ⟨w.heap.size+1+1+1+1+1,0,none⟩ (.slice Vl M2.MP.length Jf)).setCell ⟨w.heap.size+1+1+1+1+1,1,none⟩ (.slice BT M2.ws.length JK)).drew)->bodyPost prog Tryz.f126 (PMd Pb p w λf=>V.ba8 M.MP f.MP/\f.ws.length<=M.ws.length/\∀u,u∈f.ws↔u∈M.ws/\u.g≠m.g/\u.g≠k.g) .ret ⟨d,[]⟩ Z):=λ{W Z d ok} hl p8 p9 eK hV=>by
   have ao:∀Z:World,Z.heap=((W.setCell ⟨w.heap.size+1+1+1+1+1,0,none⟩ (.slice Vl M2.MP.length Jf)).setCell ⟨w.heap.size+1+1+1+1+1,1,none⟩ (.slice BT M2.ws.length JK)).heap->kL w Z->bodyPost prog Tryz.f126 (PMd Pb p w λf=>V.ba8 M.MP f.MP/\f.ws.length<=M.ws.length/\∀u,u∈f.ws↔u∈M.ws/\u.g≠m.g/\u.g≠k.g) .ret ⟨d,[]⟩ Z:=λZ hz aB=>by refine aV4 ii p8 ((congrArg (λh=>h[w.heap.size+1+1+1+1+1]?) hz).trans (aw1 (kL.heap (b9.trans hl) HX) _ _)) aR1 ?_;refine⟨Vl,Jf,BT,JK,M2,ok,by rw[p9],λX h=>HK X ((Kept.up (w3:=W) ⟨h.1,λj h1 h2=>(h.2 j h1 (by rw[hz];exact h2)).trans (by rw[hz])⟩ (W1:=W5) (by have:=xW.out;omega) a5.size).back (l9.trans hl)),λh=>?_,aB⟩;obtain rfl:=HR.out (eK h);exact⟨V.ba8.refl _,V.bj0 _ _ _,λu=>by simp[V.out];grind⟩
   rcases hV with hV|hV
   .rw[hV];exact ao _ ii (aU9 (a9.trans hl) oX _ _)
   rw[hV];exact ao _ ii (m8 (aU9 (a9.trans hl) oX _ _))
  clear hW
  cases al with
  |false=>
   go_region;go_wp2;exact ae (W:=W9) (kb _) ii ii (λh=>ck3) (.inr rfl)
  |true=>
   have af:Hid (∀W,kL W9 W->(∀q,q<2->W.cell? ⟨i.heap.size,q,none⟩=(#[.slice Vl M2.MP.length Jf,.slice BT M2.ws.length JK]:dl)[q]?)/\(∀q,q<5->W.cell? ⟨i.heap.size+1,q,none⟩=(NX ⟨1,m.fire,0,true,0⟩)[q]?)/\∀q,q<5->W.cell? ⟨i.heap.size+1+1,q,none⟩=(NX ⟨1,k.fire,v,true,0⟩)[q]?):=λW h=>⟨a1 W h,aw W h,ax W h⟩
   have s0:kL W0 W9/\(∀q,q<2->W9.cell? ⟨i.heap.size,q,none⟩=(#[.slice Vl M2.MP.length Jf,.slice BT M2.ws.length JK]:dl)[q]?)/\(∀q,q<5->W9.cell? ⟨i.heap.size+1,q,none⟩=(NX ⟨1,m.fire,0,true,0⟩)[q]?)/\∀q,q<5->W9.cell? ⟨i.heap.size+1+1,q,none⟩=(NX ⟨1,k.fire,v,true,0⟩)[q]?:=⟨z9,af _ (kb _)⟩;rcases hx:agB m ⟨1,m.fire,0,true,0⟩with _|_
   .go_region_with (first|(go_at_call 188;with_reducible refine(ai.out ⟨1,m.fire,0,true,0⟩ _ _ ii).mono ?_;rintro e S ⟨rfl,ah⟩;have C:=kL.trans (w:=W9) sX ah;have ad:=b9.trans C))
    all_goals
     go_wp2;exact ae.out (W:=S) C ii ii (λ_=>trivial) (by first|with_reducible exact .inl rfl|with_reducible exact .inr rfl)
   go_region_held3 (λW=>kL W0 W/\(∀q,q<2->W.cell? ⟨i.heap.size,q,none⟩=(#[.slice Vl M2.MP.length Jf,.slice BT M2.ws.length JK]:dl)[q]?)/\(∀q,q<5->W.cell? ⟨i.heap.size+1,q,none⟩=(NX ⟨1,m.fire,0,true,0⟩)[q]?)/\∀q,q<5->W.cell? ⟨i.heap.size+1+1,q,none⟩=(NX ⟨1,k.fire,v,true,0⟩)[q]?) (repeat(first|with_reducible exact s0|with_reducible exact s1|with_reducible exact s2|with_reducible refine bn2 ?_|refine ba2 ?_ (by have:=xW.out;have:=ay.out;omega)))
    (first
     |(go_at_call 188;with_reducible refine(ai.out ⟨1,m.fire,0,true,0⟩ _ _ ii).mono ?_;rintro e S ⟨rfl,ah⟩;have C:=kL.trans (m8 (kb W9)) ah;have ad:=b9.trans C;have s1:kL W0 S/\(∀q,q<2->S.cell? ⟨i.heap.size,q,none⟩=(#[.slice Vl M2.MP.length Jf,.slice BT M2.ws.length JK]:dl)[q]?)/\(∀q,q<5->S.cell? ⟨i.heap.size+1,q,none⟩=(NX ⟨1,m.fire,0,true,0⟩)[q]?)/\∀q,q<5->S.cell? ⟨i.heap.size+1+1,q,none⟩=(NX ⟨1,k.fire,v,true,0⟩)[q]?:=⟨z9.trans C,af.out _ C⟩)
     |(go_at_call 188;with_reducible refine(av.out ⟨1,k.fire,v,true,0⟩ _ _ ii).mono ?_;rintro e Uf ⟨rfl,aC⟩;have O:=C.trans aC;have aH:=b9.trans O;have s2:kL W0 Uf/\(∀q,q<2->Uf.cell? ⟨i.heap.size,q,none⟩=(#[.slice Vl M2.MP.length Jf,.slice BT M2.ws.length JK]:dl)[q]?)/\(∀q,q<5->Uf.cell? ⟨i.heap.size+1,q,none⟩=(NX ⟨1,m.fire,0,true,0⟩)[q]?)/\∀q,q<5->Uf.cell? ⟨i.heap.size+1+1,q,none⟩=(NX ⟨1,k.fire,v,true,0⟩)[q]?:=⟨z9.trans O,af.out _ O⟩))
   all_goals
    go_wp2;exact ae.out (W:=Uf) O ii ii (λ_=>trivial) (by first|with_reducible exact .inl rfl|with_reducible exact .inr rfl)
def Pxq(a:bv)(k:Nat):Prop:=k ∉ a
section
variable{P P':Nat->Prop}{wF:World}{v:Value}
theorem Own.anyM{a:List (Int×Nat)}(h:Own mdE 189 P wF f w' v a):Own mdE 189 P' u f w' v a:=h
theorem Own.bE5{a:List V.Pt}(h:Own RW 184 P wF f w' v a):Own RW 184 P' u f w' v a:=h
theorem Own.bB7{a:List Case}(h:Own wX 52 P wF f w' v a):Own wX 52 P' u f w' v a:=h
end
structure RpI(p:be)(l:List Ex)(pts:List V.Pt)(k:Nat)(M:V.q9)(md:List (Int×Nat)):Prop where
 rp:V.Rp p l pts k M md
 lo:∀(j i:Nat) x y,j<k->k<=i->pts[j]?=some x->pts[i]?=some y->x.av<y.av
 ws:M.ws<=k
 md:md<=k
 hk:k<=pts
def bz8(p:be)(l:List Ex)(w:World)(e:Ending)(c:World):Prop:=
 ∃f i g wc h j M d b,e=Value.tuple #[.agg #[.slice f (V.q9.MP M).length i,.slice g M.ws wc],.slice h (List.length d) j,I b]/\kL w c/\(b=0->∃a,V.ba9 l a/\V.Rp p l a a M d/\Fa (λ_=>True) c f g M/\ix mdE (λ_=>True) c h d)
theorem ba3(W:World)(o:Obj):(W.alloc o).heap.size=W+1:=sX
theorem ba4(W:World)(o:Obj)(h:b<W):(W.alloc o).heap[b]?=W.heap[b]?:=gf _ _ _ h
theorem bm0{p:be}{l:List Ex}{pts:List V.Pt}{md:List (Int×Nat)}{k:Nat}{x:V.Pt}{m:Ex}{M b:V.q9}(h:bn3 x.ai M m L b):V.bd3 p l pts md k x m L M (k+1) b/\b.ws<=M.ws.length+1:=by
 rcases h with⟨a,rfl,d,e⟩|⟨a,rfl⟩|⟨a,d,r,e,f,g⟩
 .exact⟨.put a d e,sX⟩
 .exact⟨.idle a,oX⟩
 obtain⟨c,i⟩:=b;simp only at f g;subst f;exact⟨.fire r c a d e g,as3 (ar9 _ _)⟩
theorem bm1{c:bv}{d:Value}(l:kL u f)(i:b<u):Kept (Pxq (b::c)) u u f ((f.setCell b a).setCell (b,1) d):=
 ⟨⟨by have:=l.size;simpa[World.setCell]using this,λk e g=>by rw[aS2 λh=>g (by rw[<-h];simp)];exact Below.block l k e⟩,λk j m=>aS2 oX⟩
def RoX(p:be)(l:List Ex)(a:List V.Pt)(d:List (Int×Nat))(k:Nat)(x:V.Pt)(m:Ex)(o:cu)(M:V.q9)(e:bv)(b:Nat)(f:World)(g h:am)(c:V.q9):Prop:=
 Fa (Pxq e) f g h c/\V.bd3 p l a d k x m o M (b+1) c/\(∀(j i:Nat) x y,j<=b->b+1<=i->a[j]?=some x->a[i]?=some y->x.av<y.av)/\c.ws<=b+1
theorem bm2(p:be)(l:List Ex)(pa la:am)(pc lc:Nat)(w:World)(HP:ix bc2 (λ_=>True) w pa p)(HL:ix zA (λ_=>True) w la l)(hr:im p)(hm:∀m∈l,∃(G J:Nat) (row:go),m.g=G/\m.op=J/\p[G]?=row)(hl:l.length<=400000):gt 67 #[(pa,p.length,pc),(la,l.length,lc)] w (bz8 p l w):=by
 have xS:=HP.1;have RH:=HL.1;have XH:Hid (∀W,kL w W->gt 123 #[.slice pa p.length pc,.slice la l.length lc] W λe w'=>∃b:Bool,e=.returned (B b)/\kL W w'/\(b=true->∀m∈l,InP p m)):=λW hW=>bl3 p l pa la pc lc W (HP.later hW) (HL.later hW) hr hm
 have ch:Hid (∀(P:Nat->Prop) W,kL w W->(∀k,k<w.heap.size->P k)->(∀k,W.heap.size<=k->P k)->gt 124 #[.slice la l.length lc] W λe w'=>∃g c a,e=.returned (.slice (some ⟨g,0,none⟩) (List.length a) c)/\(V.ba9 l a/\∀x∈a,x.av≠0)/\Own RW 184 P W W w' (.slice (some ⟨g,0,none⟩) a.length c) a):=λP W hW d h2=>bl1 l la lc W ((HL.mono dX λk hk _=>d k hk).later hW) h2 hl
 obtain⟨ci,aN,Bg⟩:=ij HP HL hr;obtain⟨Q,hQ⟩:∃Q:Ending->World->Prop,Q=bz8 p l w:=⟨_,ii⟩;have HQ:Hid (∀Y cc wa wc ma mc M f af w',kL w w'->(af=0->∃a,V.ba9 l a/\V.Rp p l a a.length M f/\Fa (λ_=>True) w' Y wa M/\ix mdE (λ_=>True) w' ma f)->Q (.returned (.tuple #[.agg #[.slice Y (V.q9.MP M).length cc,.slice wa M.ws.length wc],.slice ma (List.length f) mc,I af])) w'):=λY cc wa wc ma mc M f af w' d h2=>by rw[hQ];exact⟨Y,cc,wa,wc,ma,mc,M,f,af,ii,d,h2⟩
 rw[<-hQ];clear hQ HP HL hr hm;go_enter func67,ntmps67;go_upto_region 3 with fail
 generalize hW:World.alloc (World.alloc (World.alloc w _) _) _=W1;obtain⟨L,S,⟨K1,F1⟩,⟨K2,F2⟩,_,HX⟩:=bs0 hW;have aO:Hid (W1.heap[w.heap.size]?=some (.cells #[.slice none 0 0,.slice none 0 0] 129 (0,0))):=by rw[<-hW];exact(gf _ _ _ ci8).trans (aX4)
 have cj:Hid (W1.heap[w.heap.size+1]?=some (.cells #[.slice none 0 0,.slice none 0 0] 129 (0,0))):=by rw[<-hW];exact(gf _ _ _ sX).trans (aW4)
 have HS:=ag S;clear hW S;go_upto_region 4 with(go_at_call 123;refine(XH _ L).mono ?_;rintro e w3 ⟨bf,rfl,l3,aQ⟩;have Zp:=bN7;have ck:=ag aQ;clear aQ)
 .go_wp2;refine aZ7 ii ii (aw1 (kL.heap l3 aO) _ _) aR1 ?_;exact HQ none 0 none 0 _ 0 ⟨[],[]⟩ [] (-1) _ (aU9 Zp cG _ _) (λh=>cj5)
 go_upto_region 6 with(go_at_call 124;refine(ch (λ_=>True) _ Zp (λ_ _=>trivial) (λ_ _=>trivial)).mono ?_;rintro e w4 ⟨gp,cp,a,rfl,zD,Pu⟩;have l4:=Pu.1;obtain⟨HPK,Yr⟩:=dA zD Pu;clear zD Pu)
 have HM:Hid (∀m∈l,InP p m):=ck.out (by first|trivial|rfl|assumption|simp_all);have aR:=Zp.trans l4;have kR:=l3.trans l4;have xW:Hid (w.heap.size+3<=w4.heap.size):=by have:=kR.size;have:=HS.out;show _<=_;omega
 have bv6:Hid (ix RW (λk=>k=gp) w4 (some ⟨gp,0,none⟩) a):=Yr.out.bE5.rdB (kL.ER (kb _)) λg hg=>⟨by cases hg;rfl,λ_=>rfl⟩
 have aS:Hid (w3.heap.size<=gp/\gp<w4.heap.size):=by
  obtain⟨_,_,_,_,h⟩:=Yr.out;rcases h.2 with⟨h,_⟩|⟨g1,_,_,e1,cl,EU,_⟩
  .cases h
  cases e1;exact⟨cl,(dh EU).1⟩
 have cm:Hid (w.heap.size+3<=gp):=by have:=aS.out.1;have:=l3.size;have:=HS.out;show _<=_;omega
 have kM:=bv6.out.1;have au:Hid (a.length<=1000000):=kM;go_wp2;go_loopw [8,10,11,12,13,14,16,17,18,19,20] (λv i _ _ _ _ _ _ _ _ _ wr=>∃(k:Nat) (M:V.q9) (f:List (Int×Nat)) (Y wa:am) (gm cc wc mc n:Nat) (D:bv),i=.int .i64 k/\k<=a.length/\v=.slice (some ⟨gm,0,none⟩) n mc/\kL w wr/\Hid (w4.heap.size<=wr.heap.size/\wr.heap[gp]?=w4.heap[gp]?)/\Hid (n=f.length/\RpI p l a k M f/\Fa (Pxq D) wr Y wa M/\Own mdE 189 (λ_=>True) w w wr v f/\wr.heap[w.heap.size]?=some (.cells #[.slice none 0 0,.slice none 0 0] 129 (0,0))/\wr.heap[w.heap.size+1]?=some (.cells #[.slice Y M.MP.length cc,.slice wa M.ws.length wc] 129 (0,0)))/\Hid (w.heap.size∈D/\w.heap.size+1∈D/\gm∈D/\(∀e∈D,w.heap.size<=e/\e<wr.heap.size)/\gp ∉ D)) (λ_ i _ _ _ _ _ _ _ _ _ _=>a.length-(intOf i).toNat)
 case atStart=>
  refine⟨0,⟨[],[]⟩,[],none,none,_,0,0,_,0,[w.heap.size,w.heap.size+1,w.heap.size+1+1],ii,wn _,ii,aR,⟨rx _,ii⟩,⟨ii,⟨.nil,λj i x y h=>oX,rx _,rx _,wn _⟩,⟨wS.nil _,wS.nil _⟩,?_,kL.heap kR aO,kL.heap kR cj⟩,?_⟩
  .exact Own.ofE aR (kL.heap kR HX) oX
  have:=xW.out;have:=cm.out;refine⟨sX,sX,sX,λe he=>?_,λh=>?_⟩
  .simp at he;omega
  simp at h;omega
 obtain⟨k,M,f,Y,wa,gm,cc,wc,mc,n,D,rfl,hk,rfl,lw,HW4,HI,F⟩:=hrel;by_cases dD:k<a.length
 .obtain⟨x,hx⟩:∃x,a[k]?=some x:=⟨_,fv dD⟩;obtain⟨m,a3,LB⟩:=HPK.out.1.of x (lf hx);obtain⟨O,xk,xa⟩:=x;simp only at a3 LB;have dG:=um a3;obtain⟨Z3,aU,cn⟩:=ij hx LB a3;obtain⟨q1,q2,q3,q4,q5,q6⟩:=HI.out
  have Pu:∀m'∈l,∃o,V.Ug p m'=some o/\(0<=m'.g/\0<=m'.op)/\o.n<=1000:=λm' Ht=>by
   obtain⟨G,J,row,hG,hJ,mA,aY⟩:=HM.out m' Ht;have hn:∀o∈row,o.n<=1000:=λo ho=>by have PV:=Bg.out;unfold im at PV;simp only[qs,lm,ak6]at PV;have h:=(PV.1.1 row (lf mA)).1 o ho;unfold yF at h;simp only[qs,lm,ak6]at h;omega
   refine⟨row[J],?_,⟨oX,oX⟩,hn _ (at2 aY)⟩;unfold V.Ug;rw[hG,hJ,oU,oU,mA];exact fv aY
  obtain⟨o,ho,aZ,YR⟩:=Pu m (lf a3);have ah:∀W:World,kL wr W->∀k,W.heap.size<=k->Pxq D k:=λW hW k hk h=>by have:=F.out.2.2.2.1 k h;have:=hW.size;omega
  have b0:ix bc2 (λ_=>True) wr pa p:=ci.out.later lw;have b3:ix mdE (λ_=>True) wr (some ⟨gm,0,none⟩) f:=by subst q1;exact q4.anyM.rdB (wF:=wr) (kL.ER (kb _)) λg hg=>⟨trivial,λ_=>rfl⟩
  have b4:Hid (∀(m':Ex) (o':cu) W v,V.Ug p m'=some o'->0<=m'.g/\0<=m'.op->v=.agg (LM m')->kL wr W->gt 69 #[.slice pa p.length pc,v,.slice (some ⟨gm,0,none⟩) n mc] W λe w'=>∃x cx,e=.returned (qG (V.Cu o' (V.Lg f m'.call)) x cx)/\Own wX 52 (λ_=>True) wr W w' (.slice x o'.cases.length cx) (V.Cu o' (V.Lg f m'.call)).cases):=λm' o' W v d h2 hv hW=>by rw[hv,q1];exact bh2 p m' f o' pa _ pc mc wr W b0 b3 hW.ER d h2
  have ct:Hid (∀W o' xx cx v u,ix wX (Pxq D) W xx o'.cases->o'.n<=1000->v=qG o' xx cx->u=.agg (LM m)->kL wr W->gt 125 #[.agg #[.slice Y M.MP.length cc,.slice wa M.ws.length wc],v,u,I xk] W (PMd (Pxq D) W W (bn3 xk M m o'))):=λW o' xx cx v u d h2 hv hu hW=>by rw[hv,hu];exact bn4 M m o' xk Y wa xx cc wc cx W W (q3.later hW) d (kL.ER (kb _)) (ah W hW) h2 (by have:=q2.ws;have:=au.out;omega)
  have b5:Hid (∀W e0 m1 o1 x1 c1 m2 o2 x2 c2 v1 u1 v2 u2,ix wX (Pxq (e0::D)) W x1 (cu.cases o1)->ix wX (Pxq (e0::D)) W x2 (cu.cases o2)->o1.n<=1000/\o2.n<=1000->v1=qG o1 x1 c1->v2=qG o2 x2 c2->u1=.agg (LM m1)->u2=.agg (LM m2)->wr.heap.size<=e0/\e0<W.heap.size->kL wr W->gt 126 #[.agg #[.slice Y M.MP.length cc,.slice wa M.ws.length wc],u1,v1,u2,v2] W (PMd (Pxq (e0::D)) W W λM'=>V.ba8 M.MP M'.MP/\M'.ws.length<=M.ws.length/\∀u,u∈M'.ws↔u∈M.ws/\u.g≠m1.g/\u.g≠m2.g)):=λW e0 m1 o1 x1 c1 m2 o2 x2 c2 v1 u1 v2 u2 d h2 h3 e1 e2 e3 e4 he hW=>by rw[e1,e2,e3,e4];exact br5 M m1 m2 o1 o2 Y wa x1 x2 cc wc c1 c2 W W ((q3.mono λk hk d h2=>(iL.1 h2).elim (λh=>oX) d).later hW) d h2 (kL.ER (kb _)) (λk hk h2=>(iL.1 h2).elim (λh=>oX) (ah W hW k hk)) h3
  obtain⟨b,off,cs,rfl,rfl,RX,dJ⟩:=(aN.out.later lw).get (n:=13) a3;obtain⟨b1,dL,dM,e1,rfl,RP,cv⟩:=(bv6.out.Ur ⟨HW4.out.1,λk _ hk=>by rw[hk];exact HW4.out.2⟩).get (n:=3) hx
  cases e1;simp only[wl]at RP cv;obtain⟨Yk,HQ2,b6,a4,R,aw⟩:=mr q1 q2 q3 q4 q5 q6;have Yf:=ag (dO ho (dO aZ YR));obtain⟨cy,b9⟩:=dA Pu ah;obtain⟨K7,F7⟩:=aI3 q6;have dQ:=au.out;clear q1 q2 q3 q4 q5 q6 hx LB a3 ho aZ YR Pu ah b0 b3 HI;obtain⟨C,rfl⟩:∃W,W=wr:=⟨_,ii⟩;go_upto_region 11 with fail
  generalize hW:World.alloc (World.alloc C _) _=W2;obtain⟨L2,S2,⟨K8,F8⟩,⟨K9,_⟩,_⟩:=aa0 hW;clear hW S2;go_upto_region 12 with(go_at_call 69;refine(b4 m o _ _ Yf.out.1 Yf.out.2.1 cj4 L2).mono ?_;rintro e w5 ⟨x5,c5,rfl,X⟩;have l5:=X.1;have Yh:=ag X;clear X)
  generalize hW:World.alloc w5 _=W5;obtain⟨L5,S5,⟨dR,_⟩,_⟩:=bN5;have ak:=l5.trans L5;have ba:=L2.trans ak;clear hW S5;go_wp2;go_loopw [14,16,52] (λc _ i wx=>∃(t s:Nat),t<=a.length/\i=.int .i64 t/\c=.int .i64 s/\s<=t/\kL W5 wx/\Hid (s=aY9 a O t)) (λ_ _ i _=>a.length-(intOf i).toNat)
  case atStart=>exact⟨0,0,wn _,ii,ii,rx _,sX,ii⟩
  obtain⟨t,s,ht,rfl,rfl,jf,lx,HC⟩:=hrel;obtain⟨wx,rfl⟩:∃W,W=wr:=⟨_,ii⟩;by_cases cz:t<a.length
  .obtain⟨y,hy⟩:∃y,a[t]?=some y:=⟨_,fv cz⟩;have A:Hid (aY9 a O (t+1)=aY9 a O t+if y.av=O then 1 else 0):=by show aY9 a O t+_=_;rw[hy];simp
   obtain⟨b7,bc,bd,e7,rfl,R7,a9⟩:=bY8
   cases e7;simp only[wl]at R7 a9;have a5:=ba.trans lx;clear hy;go_upto_region 16 with fail
   generalize hW:World.alloc wx _=W8;obtain⟨H,N,⟨T,_⟩,_⟩:=bN5;have r:=lx.trans H;have U:=ak.trans r;clear hW N;by_cases a6:y.av=O
   .go_wp2;exact⟨⟨t+1,s+1,oX,cj8,cj8,oX,r,by show _=aY9 a O (t+1);rw[A.out,aF a6,<-HC.out]⟩,cj2⟩
   go_wp2;exact⟨⟨t+1,s,oX,cj8,ii,oX,r,by show _=aY9 a O (t+1);rw[A.out,aE a6,<-HC.out];rfl⟩,cj2⟩
  obtain rfl:t=a.length:=oX
  have a5:=ba.trans lx;have cC:Hid (∀W,kL w5 W->ix wX (Pxq D) W x5 (V.Cu o (V.Lg f m.call)).cases):=λW hW=>Yh.out.bB7.rdB (kL.ER (kb _)) λg hg=>⟨b9 W2 L2 g (by subst hg;exact Yh.out.ge.1),λh=>Below.block hW g h⟩
  have bg:Hid (O≠0):=HPK.out.2 _ (lf Z3);obtain⟨cF,cJ⟩:=aI3 R
  have bh:Hid (∀{W Z:World} {T:dl},kL C W->T.getD 4 undef=.pointer (some ⟨w.heap.size,0,none⟩)->T.getD 5 undef=.slice (some ⟨gm,0,none⟩) n mc->T.getD 6 undef=I O->(Z=(W.setCell ⟨w.heap.size,0,none⟩ (.slice Y M.MP.length cc)).setCell ⟨w.heap.size,1,none⟩ (.slice wa M.ws.length wc)\/Z=((W.setCell ⟨w.heap.size,0,none⟩ (.slice Y M.MP.length cc)).setCell ⟨w.heap.size,1,none⟩ (.slice wa M.ws.length wc)).drew)->bodyPost prog Tryz.f67 Q .ret ⟨T,[]⟩ Z):=λ{W Z T} hl p4 p5 p6 hZ=>by
   rcases hZ with hZ|hZ
   .subst hZ;refine aZ7 ii p4 (aw1 (kL.heap hl R) _ _) aR1 ?_;rw[p5,p6,Yk.out];exact HQ _ _ _ _ _ _ M f O _ (aU9 (lw.trans hl) cG _ _) (λh=>aX h bg)
   subst hZ;refine aZ7 ii p4 (heap_drew (aw1 (kL.heap hl R) _ _)) aR1 ?_;rw[p5,p6,Yk.out];exact HQ _ _ _ _ _ _ M f O _ (m8 (aU9 (lw.trans hl) cG _ _)) (λh=>aX h bg)
  have bj:=ak.trans lx;have dT:=L5.trans lx;go_upto_region 20 with(go_at_call 125;refine(ct _ (V.Cu o (V.Lg f m.call)) x5 c5 _ _ (cC wx (L5.trans lx)) Yf.out.2.2 cj4 cj4 a5).mono ?_;rintro e r ⟨Vl,Jf,BT,JK,M2,ok,rfl,bk,bl,lA⟩;obtain⟨cK,cL⟩:=dA bk bl;have H:=lA;clear bk bl)
  generalize hW:World.alloc r _=W9;obtain⟨L9,S9,⟨dY,dZ⟩,bn⟩:=bN5;have cM:=lA.trans L9;have Zg:=lx.trans cM;have ax:=ak.trans Zg;have bo:=L2.trans ax;have ay:=ag S9;clear hW S9;have MW:=ag bn;have cO:w.heap.size≠C.heap.size:=λh=>by have:=F.out.2.2.2.1 _ F.out.1;omega
  have e5:C.heap.size≠w.heap.size:=dE cO;have u7:∀W,kL W9 W->kL C W:=λW h=>bo.trans h
  have u8:∀W,kL W9 W->kL W2 W:=λW h=>ax.trans h
  clear bn lA;have e6:k+1<=a.length:=dD;have Oq:=jf;go_cut [92]from 73 to 148 (λt cP=>∃bb:Bool,t=.bool bb/\kL W9 cP/\Hid (bb=false->s<=2/\(s=2->xk=2/\∃y,a[k+1]?=some y/\y.ai=2)))
  case first=>
   by_cases A:2<s
   .have q1:¬s=2:=oX;exact cc4
   by_cases vz:s=2
   .obtain⟨⟨y,hy,a6⟩,_⟩:=bY9;obtain⟨b7,bc,bd,e7,rfl,R7,a9⟩:=(bv6.out.Ur ⟨HW4.out.1,λk _ hk=>by rw[hk];exact HW4.out.2⟩).get (n:=3) hy
    cases e7;subst vz;have q5:=um hy;have q6:(k:Int)+1<a.length:=oX;have HY:=ag hy;simp only[wl]at R7 a9;clear hy;by_cases kt:xk=2
    .subst kt;by_cases rN:y.ai=2
     .go_wp2;go_meet;exact⟨_,ii,kb _,λ_=>⟨oX,λ_=>⟨sX,y,HY,rN⟩⟩⟩
     exact cc4
    exact cc4
   go_wp2;go_meet;exact⟨_,ii,kb _,λ_=>⟨oX,λh=>aX h vz⟩⟩
  obtain⟨bb,rfl,N,HB⟩:=hcut;obtain⟨wq,rfl⟩:∃W,W=wc:=⟨_,ii⟩;have aB:=bo.trans N;have cR:=ax.trans N;have cS:=Zg.trans N;have bp:=L9.trans N
  cases bb with
  |true=>
   go_upto_region 21 with fail
   go_region;go_wp2;exact bh aB ii ii ii (.inr rfl)
  |false=>
   go_upto_if 98 with(fail)
   have PX:=ag L9.size;go_cut [10,18,19,20]from 98 to 148 (λi b _ _ wx=>∃(k':Nat) (bb:Bool) (cA ab:am) (cq wq:Nat) (A:V.q9),i=.int .i64 k'/\k<=k'/\k'<a.length/\b=.bool bb/\kL r wx/\Hid (r.heap.size<wx.heap.size/\wx.heap[r.heap.size]?=some (.cells #[.slice cA A.MP.length cq,.slice ab A.ws.length wq] 129 (0,0)))/\Hid (bb=true->RoX p l a f k ⟨O,xk,xa⟩ m (V.Cu o (V.Lg f m.call)) M (r.heap.size::D) k' wx cA ab A))
   case first=>
    by_cases vz:s=2
    .obtain⟨⟨y,hy,a6⟩,bq⟩:=bY9;obtain⟨kt,y',uO,rN⟩:=(HB (by first|trivial|rfl)).2 vz;rw[hy]at uO;cases uO;obtain⟨m2,a7,_⟩:=HPK.out.1.of y (lf hy);obtain⟨ys,yk,ya⟩:=y;simp only at a7 a6 rN;subst vz kt rN a6;have e8:=um a7;obtain⟨o2,UE,br,bs⟩:=cy.out m2 (lf a7);obtain⟨b2,e9,Ru,e2,rfl,RM,ea⟩:=(aN.out.later (lw.trans aB)).get (n:=13) a7
     cases e2;obtain⟨b7,bc,bd,e7,rfl,R7,a9⟩:=bY8
     cases e7;simp only[wl]at R7 a9;have q5:=um hy;have q6:(k:Int)+1<a.length:=oX;have OJ:=ag (dO UE (dO br bs));have HY:=ag (dO hy a7);have cT:=ag bq;clear hy a7 UE br bs bq;go_upto_region 25 with fail
     generalize hW:World.alloc wq _=bt;obtain⟨al,bw,⟨cU,cW⟩,_⟩:=bN5;have aC:=aB.trans al;have da:=N.trans al;have bx:=ag bw;clear hW bw;go_upto_region 26 with(go_at_call 69;refine(b4 m2 o2 _ _ OJ.out.1 OJ.out.2.1 cj4 aC).mono ?_;rintro e Uf ⟨x6,c6,rfl,h6⟩;have kO:=h6.1;have SD:=ag h6;clear h6)
     generalize hW:World.alloc Uf _=ao;obtain⟨aG,bA,⟨db,dc⟩,_⟩:=bN5;have a8:=kO.trans aG;have dd:=da.trans a8;have de:=aC.trans a8;have eb:=cR.trans (al.trans a8);have bB:=cS.trans (al.trans a8);have ec:=ag bA;clear hW bA;have bD:Hid (∀{Wm wm:World} {x:am} {nn c:Nat} {os:List Case},Own wX 52 (λ_=>True) C Wm wm (.slice x nn c) os->kL C Wm->∀W,(∀g,Wm.heap.size<=g->g<wm.heap.size->W.heap[g]?=wm.heap[g]?)->(wm.heap.size<=r.heap.size\/r.heap.size<Wm.heap.size)->ix wX (Pxq (r.heap.size::D)) W x os):=λ{Wm wm x nn c os} h h0 W hk hA=>h.bB7.rdB (wF:=W) (kL.ER (kb _)) λg hg=>by subst hg;obtain⟨g1,g2⟩:=h.ge;exact⟨λhm=>(iL.1 hm).elim (λe=>oX) (b9 _ h0 g g1),λ_=>hk g g1 g2⟩
     have bE:Hid (w5.heap.size<=r.heap.size):=((L5.trans lx).trans H).size;have ad:Hid (r.heap.size<bt.heap.size):=(by have:=N.size;have:=ay.out;have:=bx.out;show _<_;omega);have aq:Hid (r.heap.size<ao.heap.size):=uB ad.out a8.size;have bF:Hid (C.heap.size<=r.heap.size):=(a5.trans H).size;have pS:Hid (∀W,(∀g,g<w5.heap.size->W.heap[g]?=w5.heap[g]?)->ix wX (Pxq (r.heap.size::D)) W x5 (V.Cu o (V.Lg f m.call)).cases):=λW hW=>bD Yh L2 W (λg _ h=>hW g h) (.inl bE.out)
     have Hb:Hid (∀W,(∀g,bt.heap.size<=g->g<Uf.heap.size->W.heap[g]?=Uf.heap[g]?)->ix wX (Pxq (r.heap.size::D)) W x6 (V.Cu o2 (V.Lg f m2.call)).cases):=λW hW=>bD SD aC W hW (.inr ad.out)
     go_upto_region 27 with(go_at_call 126;refine(b5 ao r.heap.size m (V.Cu o (V.Lg f m.call)) x5 c5 m2 (V.Cu o2 (V.Lg f m2.call)) x6 c6 _ _ _ _ (pS _ λg h=>Below.block (L5.trans bB) g h) (Hb _ λg _ h=>Below.block aG g h) ⟨Yf.out.2.2,OJ.out.2.2⟩ cj4 cj4 cj4 cj4 ⟨bF.out,aq.out⟩ de).mono ?_;rintro e wB ⟨cB,a0,U,a1,A,okB,rfl,bJ,bL,lB⟩;have bM:=dd.trans lB;have a2:=lB;obtain⟨dg,uv⟩:=dA bJ bL;clear bJ bL)
     have ed:=ag (dO pS Hb);have nq:r.heap.size≠wq.heap.size:=(by have:=ad.out;have:=bx.out;have:=N.size;have:=ay.out;omega);have bN:r.heap.size≠Uf.heap.size:=(by have:=ad.out;have:=kO.size;omega);have dj:=((qf.later ⟨cU,cW⟩ (a8.trans a2)).set (v:=.slice cB A.MP.length a0) (q:=0) sX nq).set (v:=.slice U A.ws.length a1) (q:=1) sX nq;have dn:=((qf.later ⟨db,dc⟩ a2).set (v:=.slice cB A.MP.length a0) (q:=0) sX bN).set (v:=.slice U A.ws.length a1) (q:=1) sX bN;have dp:Hid (Kept (Pxq (r.heap.size::D)) ao ao wB (World.setCell (World.setCell wB ⟨r.heap.size,0,none⟩ (.slice cB A.MP.length a0)) ⟨r.heap.size,1,none⟩ (.slice U A.ws.length a1))):=bm1 a2 aq.out;have aH:=aw1 (kL.heap bM MW) (.slice cB A.MP.length a0) (.slice U A.ws.length a1);have ae:kL r (World.setCell (World.setCell wB ⟨r.heap.size,0,none⟩ (.slice cB A.MP.length a0)) ⟨r.heap.size,1,none⟩ (.slice U A.ws.length a1)):=aU9 (L9.trans bM) cG _ _;have bO:∀k,r.heap.size≠k->(World.setCell (World.setCell wB ⟨r.heap.size,0,none⟩ (.slice cB A.MP.length a0)) ⟨r.heap.size,1,none⟩ (.slice U A.ws.length a1)).heap[k]?=wB.heap[k]?:=λk h=>aS2 h
     have bP:(World.setCell (World.setCell wB ⟨r.heap.size,0,none⟩ (.slice cB A.MP.length a0)) ⟨r.heap.size,1,none⟩ (.slice U A.ws.length a1)).heap.size=wB.heap.size:=co3;generalize World.setCell (World.setCell wB _ _) _ _=WX at*;obtain⟨ef,eg⟩:=dj;obtain⟨ei,ej⟩:=dn;obtain⟨ek,em⟩:=aI3 aH;obtain⟨bQ,bS,bX⟩:=ij aH bO bP;have dq:=(a5.trans H).trans ae;have en:=(bj.trans H).trans ae;have eo:=(lx.trans H).trans ae;clear aH bO bP
     have bY:Hid (∀(j i:Nat) x y,j<=k+1->k+1+1<=i->a[j]?=some x->a[i]?=some y->x.av<y.av):=λj i x z hj hi hx hz=>by
      have h3:=cT.out i z hi hz;by_cases e1:j=k
      .subst e1;rw[Z3.out]at hx;cases hx;exact h3
      by_cases e2:j=k+1
      .subst e2;rw[HY.out.1]at hx;cases hx;exact h3
      exact HQ2.out.lo j i x z oX oX hx hz
     cases okB with
     |true=>
      go_wp2;go_meet
      case rel=>
       have d:=uv.out (by first|trivial|rfl);refine⟨k+1,true,cB,U,_,_,A,cj8,oX,q5,ii,ae,⟨?_,bQ⟩,λ_=>⟨dg _ dp,.both ⟨_,2,_⟩ m2 A ii HY.out.1 ii HY.out.2 d.1 d.2.2,bY,?_⟩⟩
       .have:=bX.out;have:=a2.size;have:=aq.out;omega
       .have:=d.2.1;have:=HQ2.out.ws;omega
     |false=>
      have aI:Hid (r.heap.size<WX.heap.size):=(by have:=bX.out;have:=a2.size;have:=aq.out;show _<_;omega);go_wp2_with (go_at_call 126;refine(b5 WX r.heap.size m2 (V.Cu o2 (V.Lg f m2.call)) x6 c6 m (V.Cu o (V.Lg f m.call)) x5 c5 _ _ _ _ (Hb _ λg d h2=>(bS.out g (by have:=ad.out;omega)).trans (Below.block (aG.trans a2) g h2)) (pS _ λg h=>(bS.out g (by have:=bE.out;omega)).trans (Below.block ((L5.trans bB).trans a2) g h)) ⟨OJ.out.2.2,Yf.out.2.2⟩ cj4 cj4 cj4 cj4 ⟨bF.out,aI.out⟩ dq).mono ?_;rintro e wD ⟨cD,ep,dr,et,M4,ds,rfl,c0,c3,lD⟩;have ar:=lD;obtain⟨aU,CZ⟩:=dA c0 c3;clear c0 c3);go_meet;refine⟨k+1,ds,cD,dr,_,_,M4,cj8,oX,q5,ii,aU9 (ae.trans ar) cG _ _,⟨?_,aw1 (kL.heap ar bQ) _ _⟩,λeK=>?_⟩
      .have:=aI.out;have:=ar.size;simp[World.setCell];omega
      have d:=CZ.out eK;refine⟨aU _ (bm1 ar aI.out),.both ⟨_,2,_⟩ m2 M4 ii HY.out.1 ii HY.out.2 d.1 (λu=>(d.2.2 u).trans ⟨λh=>⟨h.1,h.2.2,h.2.1⟩,λh=>⟨h.1,h.2.2,h.2.1⟩⟩),bY,?_⟩;have:=d.2.1;have:=HQ2.out.ws;omega
    go_wp2;go_meet;refine⟨k,ok,Vl,BT,_,_,M2,ii,rx _,dD,ii,bp,⟨?_,kL.heap N MW⟩,λeK=>?_⟩
    .have:=N.size;have:=ay.out;omega
    have h0:ok=true:=eK;have d:=bm0 (p:=p) (l:=l) (pts:=a) (md:=f) (k:=k) (x:=⟨O,xk,xa⟩) (cL h0);have h2:=cK.out r (Kept.refl H.ER);refine⟨(h2.mono λk hk d h2=>(iL.1 h2).elim (λh=>oX) d).later bp,d.1,λj i y z hj hi hy hz=>?_,by have:=d.2;have:=HQ2.out.ws;omega⟩;have h3:=bs4 HPK.out.1.sorted Z3 (by rw[<-HC.out];have:=(HB (by first|trivial|rfl)).1;omega);by_cases U:j=k
    .subst U;rw[Z3.out]at hy;cases hy;exact h3 i z hi hz
    exact HQ2.out.lo j i y z oX oX hy hz
   obtain⟨k',bb,cA,ab,cq,c4,A,rfl,kE,vA,rfl,c7,c8,dv⟩:=hcut;obtain⟨wt,rfl⟩:∃W,W=wc:=⟨_,ii⟩;have U:=(a5.trans H).trans c7;have c9:=(bj.trans H).trans c7;obtain⟨eu,ew⟩:=aI3 c8.out.2
   cases bb with
   |false=>
    go_upto_region 30 with fail
    go_region;go_wp2;exact bh U ii ii ii (.inr rfl)
   |true=>
    go_upto_region 32 with fail
    generalize hW:World.setCell (World.setCell wt _ _) _ _=wy;have aJ:wy.heap[w.heap.size+1]?=some (.cells #[.slice cA A.MP.length cq,.slice ab A.ws.length c4] 129 (0,0)):=(by rw[<-hW];exact aw1 (kL.heap U aw) _ _);have TH:∀k,k≠w.heap.size+1->wy.heap[k]?=wt.heap[k]?:=λk hk=>by rw[<-hW];exact aS2 (dE hk)
    have cb:wy.heap.size=wt.heap.size:=(by rw[<-hW];simp[World.setCell]);have ly:kL w wy:=(by rw[<-hW];exact aU9 (lw.trans U) (aj5 _) _ _);have cd:w.heap.size+1≠C.heap.size:=λh=>by have:=F.out.2.2.2.1 _ F.out.2.1;omega
    have b8:qf wy C.heap.size #[I O,I xk,I xa]:=(by rw[<-hW];exact qf.set (qf.set ⟨λW hW=>K8 W (c9.trans hW),λW hW=>F8 W (c9.trans hW)⟩ sX cd) sX cd);obtain⟨ey,_⟩:=b8;obtain⟨ez,_⟩:=aI3 aJ;have aK:gm≠w.heap.size:=a4.out.ne R dX ii;have cf:gm≠w.heap.size+1:=a4.out.ne aw dX ii;have dw:Hid (Own mdE 189 (λ_=>True) w w wy (.slice (some ⟨gm,0,none⟩) f.length mc) f):=(by have h:=a4.out;rw[Yk.out]at h;exact h.keep ly λg _ hg e=>by simp[Value.ownBlock]at e;subst e;rw[TH _ cf];exact Below.block U _ hg);obtain⟨dx,dy,dz⟩:=ij aJ TH cb;have G8:Hid (f.length<1000000):=(by have:=HQ2.out.md;have:=au.out;show _<_;omega);clear hW aJ TH cb;go_wp2_with (refine ae2 ii λK hK=>bs3 (E:=mdE) (Pb:=λ_=>True) (wF:=w) (w0:=w) (xs:=f) (y:=(O,A.MP.length)) (.tmp 140) (.tmp 147) 130 189 rfl by3 dX ii Yk (by exact dw.out.alloc _) ii cu9 cw9 G8 λg' c' W5 H5 X l5 k5 s5=>hK _ _ ?_;have Yh:=ag (dO H5 (dO X (dO k5 s5)));clear H5 X k5 s5);obtain⟨H5,X,k5,s5⟩:=Yh.out;rw[ba3]at X s5;have r1:=dv.out (by first|trivial|rfl);have z0:=U.size;have z1:=dz.out;have z2:=HW4.out.1;have z3:=aS.out.2;have z4:=lw.size;have z5:=(a5.trans H).size;have z6:=c8.out.1;have cg:gp≠gm:=λh=>F.out.2.2.2.2 (h▸F.out.2.2.1)
    have dB:gp≠w.heap.size+1:=λh=>F.out.2.2.2.2 (h▸F.out.2.1)
    have z7:w.heap.size+1<C.heap.size:=(F.out.2.2.2.1 _ F.out.2.1).2;have kk:∀k,k<wt.heap.size->k≠gm->k≠w.heap.size+1->W5.heap[k]?=wt.heap[k]?:=λk d h2 h3=>by rw[k5 k (by rw[ba3];omega) h2,ba4 _ _ oX];exact dy.out k h3
    refine⟨?_,cj2⟩;refine⟨k'+1,A,f++[(O,A.MP.length)],cA,ab,g',cq,c4,c',f.length+1,g'::r.heap.size::D,cj8,oX,ii,l5,⟨oX,?_⟩,⟨sX,⟨?_,λj i x y d h2=>r1.2.2.1 j i x y oX h2,r1.2.2.2,?_,oX⟩,?_,H5,?_,?_⟩,?_⟩
    .rw[kk gp oX cg dB,Below.block U gp oX];exact HW4.out.2
    .exact .av k M f ⟨O,xk,xa⟩ m o (k'+1) A HQ2.out.rp Z3 cn Yf.out.1 r1.2.1
    .have:=HQ2.out.md;simp;omega
    .refine(r1.1.mono (P':=Pxq (g'::r.heap.size::D)) λk hk d h2=>?_).Ur ⟨oX,λk hk d=>kk k hk (λh=>d (by rw[h];simp[F.out.2.2.1])) (λh=>d (by rw[h];simp[F.out.2.1]))⟩;rcases iL.1 h2 with h2|h2
     .rcases X with X|X
      .exact d (by rw[h2,X];exact nO _ F.out.2.2.1)
      omega
     exact d h2
    .rw[kk _ oX (dE aK) oX];exact kL.heap U R
    .rw[k5 _ (by rw[ba3];omega) (dE cf),ba4 _ _ oX];exact dx.out
    refine⟨by simp[F.out.1],by simp[F.out.2.1],sX,λe he=>?_,λh=>?_⟩
    .rcases iL.1 he with rfl|he
     .exact H5.ge
     rcases iL.1 he with rfl|he
     .omega
     have:=F.out.2.2.2.1 e he;omega
    rcases iL.1 h with h|h
    .rcases X with X|X
     .exact cg (h.trans X)
     omega
    rcases iL.1 h with h|h
    .omega
    exact F.out.2.2.2.2 h
 obtain rfl:k=a.length:=oX
 obtain⟨q1,q2,q3,q4,q5,q6⟩:=HI.out;obtain⟨HQ2,b6,a4,R,aw,Yk⟩:=mr q2 q3 q4 q5 q6 q1;obtain⟨K7,F7⟩:=aI3 q6;obtain⟨cF,cJ⟩:=aI3 q5;obtain⟨r,rfl⟩:∃W,W=wr:=⟨_,ii⟩;clear q1 q2 q3 q4 q5 q6 HI;go_wp2;have aK:gm≠w.heap.size:=a4.out.ne R dX ii;refine aZ7 ii ii (aw1 R _ _) aR1 ?_;have e:=Yk.out;subst e;refine HQ Y cc wa wc (some ⟨gm,0,none⟩) mc M f 0 _ (aU9 lw cG _ _) (λ_=>⟨a,HPK.out.1,HQ2.out.rp,(b6.out.Ur ⟨co3,λk hk d=>aS2 λh=>d (h▸F.out.1)⟩).mono λ_ _ _=>trivial,a4.out.anyM.rdB (kL.ER (kb _)) λg hg=>⟨trivial,λ_=>aS2 (by cases hg;exact dE aK)⟩⟩)