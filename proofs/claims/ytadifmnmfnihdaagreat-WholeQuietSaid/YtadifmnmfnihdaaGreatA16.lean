import Derived.Test.YtadifmnmfnihdaaGreatA13
set_option linter.all false
set_option maxRecDepth 100000
set_option maxHeartbeats 40000000
namespace Go.Proofs.YtadifmnmfnihdaaGreat
open Go.RowKit Mach Go.Proofs.Tryz
variable{b z:Nat}{G:Fx}{v u f w' w2:World}{D Q:Mem}{S':Wd}{J:bi}{R:Int}
section
variable{m':Mem}{S:Wd}{L:List (Nat×Obj)}
theorem lZ{w':World}{r:Option Nat}(h:w2.grownBy w' r)(a:w2.heap=f.heap)(c:w2.os=f.os)(d:w2.tape=f.tape)(e:w2.output=f.output):f.grownBy w' r:=
 ⟨h.os.trans c,h.tape.trans d,h.output.trans e,by rw[<-a];exact h.size,λk g i=>by rw[<-a];exact h.block k (by rw[a];exact g) i⟩
theorem JE(R:bz b G v D S)(h:0<S.aq.length):gt 169 #[G.dY,I 0,I (-1)] v (eL (.bool false) λw'=>v=w'):=by
 have a:=R.sM;have hx:S.aq[0]?=S.aq[0]:=fv h;obtain⟨x,c⟩:=dC (S.aq[0]);rw[<-c]at hx;obtain⟨i,d,f⟩:=Mem.CO (r:=.dQ) (n:=S.aq.length) R (by simp[aj];intro e;rw[e]at h;simp at h);rw[f]at a;have c1:v.cell? i=I x:=R.cell d cq1;obtain⟨n,g⟩:=dC (S.aq.length);rw[<-g]at a h;clear R f c hx d g;go_enter func169,ntmps169;exact bZ9
theorem Ub(A:At b G Q u D v S)(h:0<S.aq.length)(n:Nat):gt 169 #[G.dY,I 0,I (-1)] (v.drewN n) λe w'=>e=Value.bool false/\w'=v.drewN n:=
 (JE (A.drewN n).bj h).mono λe w' h=>⟨h.1,h.2.symm⟩
theorem D7(R:bz b G v D S)(T:S.au=[])(Dj:S.aO=[])(Fu:0<S.aq.length):gt 134 #[bR G,I 1,.agg #[I 0,(),B false,I (-1),(),()]] v (ee (To b G D v (iu S 0 0))):=by
 obtain⟨i1,U,jC,xi,gq⟩:=AC KF;obtain⟨i2,W,gG,vz,mz⟩:=AC P7;obtain⟨va,vc,hh⟩:=R.shape (r:=.au) (n:=0) (by simp[aj,T]);have hk:S.au.length=0:=by rw[T];rfl
 have cR:S.aO.length=0:=by rw[Dj];rfl
 have K:=ag ((AB.iU R).alloc (.cells #[I 0,.slice none 0 0,B false,I (-1),.slice none 0 0,.slice none 0 0] 59));have HN:=ag (λv=>wY 0 oX v);have M:=ag hk;have X:=ag cR;have Y:=ag hh;have vD:=ag R.eS;have TD:Hid (G.aQ<v.heap.size):=R.lt R.aB.aQ;clear R hh hk cR T Dj;unfold bR;go_enter func134,ntmps134;go_wp2_with (first|(go_at_call 193;refine(HN _).mono ?_;rintro e wA ⟨c,N,rfl,Z⟩;have k:=ag Z;have XA:=K.out.av ((At.refl K.out.bj).heap Z.below);have d:=XA.bj;have d5:=d.qx;rw[M.out,Y.out]at d5;have s:=d.frozen d.aB.aQ 5;have l1:=d.lt d.aB.aQ;have a:=d.owns (r:=.au) (p:=(118,1)) ii dX (n:=0) (by simp[aj,M.out]);rw[Y.out]at a;have HO:=ag a;have qq:=d.eS;have t:=ag XA;clear XA d Z a)|(at_builtin;go_loud (refine jw (us:=#[.pointer (some ⟨c,0,none⟩)]) (w2:=wA) ii (.tmp 24) (.tmp 26) 87 rfl underlying87 U jC xi gq ii dX dX ii ii cj0 (.slice va 0 vc) 0 _ ii HO ii oX qq ?_)));intro gg cap w3 x y bE;have jz:(Value.slice va 0 vc).ownBlock=D.aV .au:=by rw[<-Y.out,Mem.mM]
 rw[jz]at y bE;have FI:(v.alloc (.cells #[I 0,.slice none 0 0,B false,I (-1),.slice none 0 0,.slice none 0 0] 59)).heap.size=v.heap.size+1:=sX
 have P9:=k.out.rb0;have Qa:=k.out.pb0;have a3:v.heap.size+1<=c:=by rw[<-FI];exact P9
 have Pj:v.heap.size+1<=N:=by rw[<-FI];exact Qa
 have z:=t.out.yc (buf:=.cells #[.pointer (some ⟨c,0,none⟩)] 118) k.out.eU k.out.pl0 k.out.ne cv4 cv4 (K.out.bj.iT P9) (K.out.bj.iT Qa) oX oX oX oX y (by rw[M.out];exact x) (by simpa using bE);rw[M.out]at z;obtain⟨f,A,z⟩:∃f,f=_/\AB b G D v ((D.fR 0 c N 0).eG .au (some gg) cap) f _ _:=⟨_,ii,z⟩;have a0:=fW (o:=.cells #[.pointer (some ⟨c,0,none⟩)] 118) y d5 ii (t.out.bj.jv t.out.bj.aB.aQ sX);have WW:=fN (o:=.cells #[.pointer (some ⟨c,0,none⟩)] 118) y s l1 ii (t.out.bj.jv t.out.bj.aB.aQ sX);have wG:=ag z;have UT:=ag A;clear x y bE z A;go_upto_region 3 with fail
 rw[<-UT.out];clear d5 s a0 WW UT HO qq l1;have RB:=wG.out.bj;have fe6:=RB.frozen RB.aB.aQ 6;have l1:=RB.lt RB.aB.aQ;obtain⟨g,j,TE⟩:=RB.shape (r:=.aO) (n:=S.aO.length) cs9;have e6:f.cell? ⟨G.aQ,6,none⟩=some (.slice g 0 j):=by rw[<-X.out,<-TE];exact RB.Cv
 have zF:=bV8;rw[TE]at zF;have fu:f.ownsRow b 4 1 (.slice g 0 j) 0 (S.aO.map B):=by rw[<-X.out];exact zF
 have Jg:Hid ((Value.slice g 0 j).ownBlock=((D.fR 0 c N 0).eG .au (some gg) cap).aV .aO):=by grind [Hid.out,Mem.mM]
 have Jh:Hid ((Value.slice g 0 j).ownBlock≠some G.aQ):=by rw[Jg.out];exact RB.jv RB.aB.aQ sX
 have OJ:=ag fu;have Ga:=RB.eS;obtain⟨b0,b1,b2,b3,b4,b5⟩:=jD wG.out.head;have a4:v.heap.size<f.heap.size:=(dh wG.out.head).1;clear RB TE fu zF;go_region_law (refine jN (us:=#[B false]) (w2:=f) ii (.tmp 34) (.tmp 37) 88 rfl underlying88 W gG vz mz ii dX dX ii ii cj0 (.slice g 0 j) 0 _ ii OJ ii oX Ga ?_;intro g2 hU w4 Gb KT qU;have oQ:(f.alloc (.cells #[B false] 4)).grownBy w4 (Value.slice g 0 j).ownBlock:=lZ KT ii ii ii ii;obtain⟨d6,a1⟩:=bL5)
 all_goals
  rw[Jg.out]at oQ qU;have hlc:(S.aO++[false]).length=1:=by simp[X.out]
  have C:=bV9;rw[hlc]at C;obtain⟨E,H,C⟩:∃E,E=_/\AB b G D v (((D.fR 0 c N 0).eG .au (some gg) cap).eG .aO (some g2) hU) E (iu S 0 0) _:=⟨_,ii,C.WU (by simp[iu])⟩;have O:=ag C;have J:=ag H;clear Gb oQ KT qU C H;go_upto_region 4 with fail
  rw[<-J.out];clear J d6 a1 e6 fe6 OJ Ga Jg Jh l1 wG b0 b1 b2 b3 b4 b5;have R1:=O.out.bj;have c7:=R1.pC;obtain⟨b0,b1,b2,b3,b4,b5⟩:=jD O.out.head;have a2:=ag (λq=>Ub O.out.at_ (by simpa[iu]using Fu) q);clear R1;go_quiet ((go_at_call 169;exact ag5 (a2 _)));go_upto_region 5 with fail
  go_wp2_with fail
  go_loopw [53] (λi wr=>i=.int .i64 0/\wr=E.drewN nq) (λi _=>0)
  case atStart=>exact⟨ii,ii⟩
  obtain⟨rfl,rfl⟩:=hrel;go_wp2_with fail
  go_loopw [69] (λi wr=>i=.int .i64 0/\wr=E.drewN nq) (λi _=>0)
  case atStart=>exact⟨ii,ii⟩
  obtain⟨rfl,rfl⟩:=hrel;go_wp2_with fail
  go_end0;exact⟨ii,_,O.out.at_.drewN _⟩
end
def po(n:Nat):Code->Option Code
 | .region m d b=>if m=n then some (.region m d b)else none
 | .seq a b=>match po n a with|some c=>some c|none=>po n b
 | .block _ a=>po n a
 | .loop a=>po n a
 | .cond _ a b=>match po n a with|some c=>some c|none=>po n b
 |_=>none
theorem GL{aJ:Code}(ic:Tryz.f74.body.bind (po 11)=aJ){wb j vc ln lc:Nat}{va la:am}{w5:World}(RL:w5.heap[z]?=some (.cells (NC la ln lc) 100 (0,0)))(c3:w5.cell? (wb,3)=some (.slice va j vc))(Yg:w5.frozen? (wb,3)=false)(lwb:wb<w5)(f:w5.ownsRow b 100 25 (va,j,vc) j J)(ab0:b<=w5)(hj:j<=2)(cM:(Value.slice va j vc).ownBlock≠wb)(x0 x1 x2 x4 x6 x7 x8 x9 RI g sD sE zR zS Gn Gp Gq MK ML MM MN MO QB QC l XX XY XZ m Ya Yb Yc n o p r s t u x y A B C D E F G H I L M N O R S T U X Y Z a0 a1 a2 a3 a4 a5 a6 a7 a8 a9 ab ad ae af ah ai ak al ao aq ar au av aw ax ay aB aC aG aI aK aN aO aQ aR aS aU Tk WN Tl Tm Tn Tp Tq Tr Ts Tt Tu Tv Tw Tx Ty Tz TA TC:Value){Q:Exit->Act->World->Prop}(d:∀c (a:Act) (k:Nat) v w,Q (.panic c) (a.put (some k) v) w->Q (.panic c) a w)(hQ:∀(aY aZ b0 b1 b2 b3 b4 b5 b6 PW:Value) (w9:World) (gg hU:Nat),w9.ownsRow b 100 25 (gg,j+1,hU) (j+1) (J++((NC la ln lc):dl).toList)->(w5.alloc (.cells (NC la ln lc) 100)).grownBy w9 (Value.slice va j vc).ownBlock->((Value.slice va j vc).ownBlock=gg\/w5+1<=gg)->Q .normal {tmps:=#[x0,x1,x2,wb,x4,z,x6,x7,x8,x9,RI,g,sD,sE,zR,zS,Gn,Gp,Gq,MK,ML,MM,MN,MO,QB,QC,l,XX,XY,XZ,m,Ya,Yb,Yc,n,o,p,r,s,t,u,x,y,A,B,C,D,E,F,G,H,I,L,M,N,O,R,S,T,U,X,Y,Z,a0,a1,a2,a3,a4,a5,a6,a7,a8,a9,ab,ad,ae,af,ah,ai,ak,al,ao,aq,ar,au,av,aw,ax,ay,aB,aC,aG,aY,aZ,b0,b1,b2,b3,b4,b5,b6,PW,Tl,Tm,Tn,Tp,Tq,Tr,Ts,Tt,Tu,Tv,Tw,Tx,Ty,Tz,TA,TC],defers:=[]} (w9.setCell (wb,3) (gg,j+1,hU))):Code.wp prog aJ Q {tmps:=#[x0,x1,x2,wb,x4,z,x6,x7,x8,x9,RI,g,sD,sE,zR,zS,Gn,Gp,Gq,MK,ML,MM,MN,MO,QB,QC,l,XX,XY,XZ,m,Ya,Yb,Yc,n,o,p,r,s,t,u,x,y,A,B,C,D,E,F,G,H,I,L,M,N,O,R,S,T,U,X,Y,Z,a0,a1,a2,a3,a4,a5,a6,a7,a8,a9,ab,ad,ae,af,ah,ai,ak,al,ao,aq,ar,au,av,aw,ax,ay,aB,aC,aG,aI,aK,aN,aO,aQ,aR,aS,aU,Tk,WN,Tl,Tm,Tn,Tp,Tq,Tr,Ts,Tt,Tu,Tv,Tw,Tx,Ty,Tz,TA,TC],defers:=[]} w5:=by
 obtain rfl:Code.region 11 _ _=aJ:=mx ic;obtain⟨i3,gi,RO,gz1,RQ⟩:=AC uS;obtain⟨HQ,Yh,NA⟩:=ij hQ f cM;have b7:z<w5:=(dh RL).1;have aH:Hid (∀W:World,W.heap=w5.heap\/W.heap=w5.heap->∀q v,((NC la ln lc):dl)[q]?=some v->W.cell? ⟨z,0+q,none⟩=some v):=λW hW q v hv=>by have hW:W.heap=w5.heap:=hW.elim id id;rw[wl,al7 W z q _ _ _ (by rw[hW];exact RL)];exact hv
 clear ic hQ f cM RL;refine wp_region_any kX ?_;change wpAny _ _ _ _ _ _ _ w5.drew;refine wpAny_take (i:=0) (v:= ?v0) ii kX kX kX (λ_ _ _ h=>d _ _ _ _ _ h) (Or.inl ⟨co0,?J2⟩) ?ax1
 case J2=>(intro w0;go_simp;try with_reducible rfl)
 refine wpAny_take (i:=1) (v:= ?v1) ii kX kX kX (λ_ _ _ h=>d _ _ _ _ _ h) (Or.inl ⟨co0,?NW⟩) ?ax2
 case NW=>(intro w0;go_simp;try with_reducible rfl)
 refine wpAny_take (i:=2) (v:= ?v2) ii kX kX kX (λ_ _ _ h=>d _ _ _ _ _ h) (Or.inl ⟨co0,?rN⟩) ?ax3
 case rN=>(intro w0;go_simp;try with_reducible rfl)
 refine wpAny_take (i:=3) (v:= ?v3) ii kX kX kX (λ_ _ _ h=>d _ _ _ _ _ h) (Or.inl ⟨co0,?ZU⟩) ?ax4
 case ZU=>(intro w0;go_simp;try with_reducible rfl)
 refine aj1 (rs:=[4,5]) kX sX (ae7 ii (λK hK=>?_) (ae7 ii (λK hK=>?_) ag6))
 .go_simp;refine hK _ _ ?_;clear hK K;refine aj1 (rs:=[5]) kX sX (ae7 ii (λK hK=>?_) ag6);refine tt ii 100 (.tmp 5) ii z 0 rfl (NC la ln lc) (aH _ (.inl rfl)) cQ.1 cQ.2 ?_;exact ci5
 refine tt ii 100 (.tmp 5) ii z 0 rfl (NC la ln lc) (aH _ (.inl rfl)) cQ.1 cQ.2 ?_;refine hK _ _ ?_;clear hK K;refine aj1 (rs:=[4,6]) kX sX (ae7 ii (λK hK=>?_) (ae7 ii (λK hK=>?_) ag6))
 .go_simp;exact ci5
 go_simp;refine hK _ _ ?_;clear hK K;refine aj1 (rs:=[4]) kX sX (ae7 ii (λK hK=>?_) ag6);exact bZ1
namespace V
def bD6(w:Wd)(g:Nat):Prop:=∃(j s:Nat) (y:bI) (a:fE),w.gs[j]?=y/\aT y/\y.br=s/\w.ah[s]?=a/\a.g=g
def bD7(w:Wd)(g:Nat)(x:bI):Prop:=0<=x.aN/\((∃(j:Nat) (y:bI),w.gs[j]?=y/\(g:Int)∈y.OK)\/∃t,w.ax[g]?=some (0,t)/\(t\/x.ae=14))
structure T3(n:Int)(w:Wd)(g:Nat)(x:bI):Prop where
 tm:x.call<=n/\0<=x.bJ/\x.bJ<=n/\x.lQ<=n/\(x.bJ≠0->x.call<=x.bJ)
 own:x.ae≠0->∀d∈w.done,d.g=g->d.lQ<x.call
 act:x.ae≠0->∀i c,Xq (aP x) i=some c->bf7 x i->∀m o,bf6 w m o->be4 o m c.ch->x.call<=m.lQ
 lone:x.bJ≠0->x.lQ=0->∀i c,Xq (aP x) i=some c->((aP x).ai=9->i∈x.aH)->∀m o d,bf6 w m o->bc4 o m d->d.ch=c.ch->d.cF≠c.cF->m.lQ<x.bJ
 EJ:x.bJ≠0->x.lQ=0->∀s,aZ1 x s->JP w.ef s
 in9:x.ae=29->x.lQ=0->∀(j:Nat) i (s:Nat),(j:Int)<x.k->x.aH[j]?=some i->x.bA[i.toNat]?=(s:Int)->JP w.ef s
 pk:x.aR\/0<=x.aN->x.lQ≠0
 zp:Ra x->x.lQ=0
 ar:aY6 x->x.bJ≠0
 aw:x.bJ≠0->x.lQ=0->aW x
 wt:aW x->x.lQ≠0->bD6 w g\/bD7 w g x
structure bn1(n:Int)(w:Wd):Prop where
 t3:∀(g:Nat) x,w.gs[g]?=some x->T3 n w g x
 tl:∀m o,bf6 w m o->m.lQ<=n/\(∀c,be4 o m c->1<=c/\c<=w.au)/\∀c,bo3 o m c->pP w c
 dp:∀d∈w.done,d.lQ<=n/\d.re≠0
 lv:∀(s:Nat) sd,w.ah[s]?=some sd->sd.cK->∃(g:Nat) (x:bI),sd.g=g/\w.gs[g]?=x/\eP x s sd
section
variable{w w':Wd}{ls fM:ap}{g:Nat}{x x' y y':bI}{n:Int}
theorem aL2.same(O:aL2 w' y y'):y'.ae=y.ae/\y'.bJ=y.bJ/\y'.call=y.call/\y'.aH=y.aH/\y'.bA=y.bA/\y'.bY=y.bY/\y'.k=y.k/\y'.res=y.res/\y'.OK=y.OK/\y'.br=y.br/\aP y'=aP y/\y'.ops=y.ops:=by
 have e:∀{β:Type} (f:bI->β),(∀x,f (V.core x)=f x)->f y'=f y:=λf a=>by rw[<-a y',O.core,a]
 exact⟨e _ λ_=>rfl,e _ λ_=>rfl,e _ λ_=>rfl,e _ λ_=>rfl,e _ λ_=>rfl,e _ λ_=>rfl,e _ λ_=>rfl,e _ λ_=>rfl,e _ λ_=>rfl,e _ λ_=>rfl,e _ aS4,e _ λ_=>rfl⟩
theorem Eff.bD8(E:Eff w w' g x x')(d:w.gs[g]?=x):w'.gs.map (·.ops)=w.gs.map (·.ops):=by
 apply ad9;intro j;rw[na,na];by_cases c:j=g
 .rw[c,d,E.me];simp[E.ops]
 rcases aj8 j w'.gs with h|h
 .obtain⟨y,a,b⟩:=E.yf j w'.gs[j] c (fv h);rw[a,fv h];exact congrArg some b.same.2.2.2.2.2.2.2.2.2.2.2
 grind [len]
theorem Eff.back(E:Eff w w' g x x')(k:w.gs[g]?=x){m:Ex}{o:cu}(h:bf6 w' m o):bf6 w m o\/m=qu x' g 0/\bk3 w' w.av m o:=by
 rcases h with⟨d,f,i,e⟩|⟨j,u,f,i,e,p⟩
 .rw[E.bD8 k]at e;rcases E.dn d f with h|⟨h,l,_,q,r⟩
  .exact .inl (.inl ⟨d,h,i,e⟩)
  subst h i;refine .inl (.inr ⟨g,x,k,l,ii,?_⟩);unfold Ug qu at e;simp only[oU,na,k,km,eN]at e;unfold aP idx;rw[aF q,e];rfl
 by_cases l:j=g
 .subst l;rw[E.me]at f;cases f;rcases E.tl i with⟨a,b,c⟩|h
  .exact .inl (.inr ⟨j,x,k,a,by rw[e,b],by rw[p,c]⟩)
  grind
 obtain⟨y,a,b⟩:=E.yf j u l f;have c:=b.same;rcases E.ot j y u l a f with h|⟨h,_⟩
 .subst h;exact .inl (.inr ⟨j,u,a,i,e,p⟩)
 exfalso;refine bw5 h ?_;grind [told]
theorem bb9(I:Inv w ls)(b:w.gs[g]?=x){s:Nat}(h:aZ1 x s):∃a,w.ah[s]?=some a/\a.g=g:=by
 rcases h with h|⟨i,h⟩
 .grind [Inv.bY]
 grind [Inv.bA]
theorem bt9(I:Inv w ls)(J:Inv2 w)(hx:w.gs[g]?=x)(j:x.bJ≠0)(F:aW x)(m:∀s,aZ1 x s->JP w.ef s){c:Case}(o:Xq (aP x) R=c)(p:(aP x).ai=9->R∈x.aH):1<=w.ef.len (Uj (!c.cF) c.ch):=by
 have L:=bT4;have f:=(J.g2 g x hx).early j
 obtain⟨s,d,r,t,u,z⟩:∃(s:Nat) (d:fE),aZ1 x s/\w.ah[s]?=d/\d.ch=c.ch/\d.cF=c.cF:=by
  by_cases h9:(aP x).ai=9
  .have A:x.ae=30/\x.res.aJ=0\/x.ae=13\/x.ae=14:=by unfold aW aw0 at*;omega
   obtain⟨G,H,B⟩:=bW3;obtain⟨v,a,b⟩:=B.all oX R (p h9);obtain⟨s,rfl⟩:=pz b;obtain⟨d,c1,c2,c3,c4,i⟩:=I.bA g x _ s hx a;rcases i with⟨h,_⟩|⟨_,_,_,C,K,D,E⟩
   .exact aX h9 h
   refine⟨s,d,.inr ⟨_,a⟩,c1,?_⟩;have e:C=c:=(by unfold Xq idx at o;grind);subst e;exact⟨D,E⟩
  have A:x.ae=12\/x.ae=13\/x.ae=14:=by unfold aW at*;omega
  have C:(aP x).ai=2\/(aP x).ai=3:=by unfold aw0 at f;omega
  obtain⟨s,e⟩:=pz (L.bY h9 oX);obtain⟨d,c1,c2,c3,i⟩:=I.bY g x s hx e;rcases i with⟨_,_,_,d1,d2⟩|⟨h,_⟩
  .refine⟨s,d,.inl e,c1,?_⟩;grind [Xq]
  exact aX h h9
 obtain⟨k,l,a,b⟩:=(bt8 I.q).1 (m s r);obtain⟨B,_,_,c1,_,_,_,_,_,c2⟩:=I.EJ k l s a b;rw[t]at c1;cases c1;have e:Uj (!c.cF) c.ch=k:=by rw[c2];unfold Lh Uj;rw[u,z];cases c.cF<;>rfl
 rw[e,I.q.aS1,a];grind
theorem Eff.am0(I:Inv w ls)(I':Inv w' fM)(J':Inv2 w')(hx:w.gs[g]?=x)(E:Eff w w' g x x')(hn:0<=n)(hs:w.av=n+1)(K:bn1 n w):bn1 (n+1) w':=by
 have T:=K.t3 g x hx;have F:=λ{m o} h=>E.back hx (m:=m) (o:=o) h
 have a8:=T.tm;have a0:x'.call<=n+1/\0<=x'.bJ/\x'.bJ<=n+1/\x'.lQ<=n+1/\(x'.bJ≠0->x'.call<=x'.bJ):=by rcases E.tu with⟨a,b,c,d⟩|⟨a,b,c,_⟩|⟨_,_,_,a,_,b,c⟩<;>omega
 have pk':x'.aR=true\/0<=x'.aN->x'.lQ≠0:=λh=>(E.pk h).elim id λ⟨a,b⟩=>by rw[b];exact T.pk a
 have a6:∀(j:Nat) y y',j≠g->w.gs[j]?=some y->w'.gs[j]?=some y'->y'.aR=true\/0<=y'.aN->y'.lQ≠0:=λj y y' hj R W h=>by
  rcases E.ot j y y' hj R W with rfl|⟨_,a,_⟩
  .exact(K.t3 j y' R).pk h
  exact a
 have bk5:∀(j s:Nat) (u:bI),w'.gs[j]?=some u->u.lQ=0->(u.aR=true->u.lQ≠0)->JP w.ef s->(∃B,w.ah[s]?=some B/\B.g=j)->JP w'.ef s:=λj s u hu h0 B9 hq ⟨B,a,b⟩=>by rcases E.iq s B hq a with h|⟨z,v,f,h2,q⟩;all_goals grind
 have a7:x'.bJ≠0->x'.lQ=0->∀s,aZ1 x' s->JP w'.ef s:=λf h2 s q=>by
  rcases E.io h2 f s q with⟨a,b,c⟩|⟨a,b,j,i,c,d,e⟩|h
  .exact bk5 g s x' E.me h2 (λh=>pk' (.inl h)) (T.EJ b a s c) (bb9 I hx c)
  .exact cf9
  exact h
 have me:T3 (n+1) w' g x':=by
  refine⟨a0,λG d hd hg=>?_,λG i c f h2 m o q r=>?_,λf h2 i c q r m o d H h6 h7 h8=>?_,a7,λf h2 j i s q r H=>?_,pk',λh=>?_,λh=>?_,λf h2=>?_,λf h2=>?_⟩
  .have p:d∈w.done:=(E.dn d hd).elim id λh=>aX h.2.2.1 G
   have:=(K.dp d p).1;rcases E.tu with⟨a,_⟩|⟨a,_⟩|⟨a,_,_,b,_⟩
   .exact aX a G
   .omega
   rw[b];exact T.own a d p hg
  .rcases F q with h|⟨h,M⟩
   .have C:=(K.tl m o h).2.1 _ r;rcases E.tu with⟨a,_⟩|⟨a,_,_,p,A,b⟩|⟨a,a2,a3,b,b2,_⟩
    .exact aX a G
    .grind
    rw[b];rw[a3]at f;refine T.act a i c f ?_ m o h r;rcases h2 with h2|⟨h2,H⟩
    .exact aX h2 a2
    rw[a3]at h2;rw[b2]at H;exact .inr ⟨h2,H⟩
   have:=(M.cre _ r).2.2;omega
  .rcases F H with h|⟨h,M⟩
   .have G:=(K.tl m o h).1;rcases E.tu with⟨_,_,a,_⟩|⟨_,a,_⟩|⟨a,a2,a3,_,b2,Z,b4⟩
    .exact aX a f
    .exact aX a f
    rcases Z with Z|Z
    .rw[Z]at f ⊢;rw[a3]at q r;rw[b2]at r;exact T.lone f oX i c q r m o d h h6 h7 h8
    omega
   have:m.lQ=x'.lQ:=by rw[h];rfl
   omega
  .rcases E.io2 f h2 j i s q r H with⟨a,b,c,d,e⟩|h
   .exact cf9
   exact h
  .rcases E.zp h with⟨a,b⟩|h
   .rw[b];exact T.zp a
   exact h
  .rcases E.ar h with⟨a,b⟩|h
   .rw[b];exact T.ar a
   omega
  .rcases E.aw f with h|h|⟨a,b,c⟩|⟨a,b⟩
   .exact h
   .exact aX h2 h
   .grind [T3.aw]
   exact aX (b.symm.trans h2) (T.pk (.inr a))
  rcases E.ow f h2 with⟨a,b⟩|⟨a,b,c,d⟩
  .exact aX (b.trans (T.zp a)) h2
  rcases T.wt a oX with⟨j,s,u,B,p,A,e3,e4,e5⟩|⟨h0,h⟩
  .left;obtain⟨X,z0,Nf,y0,f1,f2,f3,f4,f5,f6,_⟩:=I.claim j u p A;obtain rfl:X=s:=by omega
   rw[e4]at f2;cases f2;have hj:j≠g:=(by rintro rfl;omega);obtain⟨D,Y,O⟩:∃D,w'.gs[j]?=some D/\aL2 w' u D:=by have hl:=um p;have tA:=E.len;obtain⟨u2,C,N⟩:=bY5;grind
   have S:=O.same;obtain⟨J,Q,k2⟩:=E.s2 X B e4 f3 (.inr a);refine⟨j,X,D,J,Y,by unfold aT at*;rw[S.1];exact A,by rw[S.2.2.2.2.2.2.2.2.2.1];exact e3,Q,oX⟩
  right;refine⟨oX,?_⟩;rcases h with⟨j,u,p,A⟩|⟨t,p,A⟩
  .by_cases hj:j=g
   .subst hj;rw[hx]at p;cases p;have L:=I.loc j x hx;grind [Loc.uP,aW]
   left;have hl:=um p;have tA:=E.len;obtain⟨u2,C,N⟩:=bY5;rw[p]at C;cases C;exact⟨j,_,fv oX,by rw[N.same.2.2.2.2.2.2.2.2.1];exact A⟩
  grind
 have yf:∀(j:Nat) y y',j≠g->w.gs[j]?=some y->w'.gs[j]?=some y'->aL2 w' y y'->T3 (n+1) w' j y':=by
  intro j y y' hj R W O;have U:=K.t3 j y R;have a9:=U.tm;obtain⟨c1,c2,c3,c4,c5,c6,c7,c8,c9,Fq,Y,ab⟩:=O.same;have a1:=E.ot j y y' hj R W;have zD:y'.lQ=0->y'=y:=λh=>a1.elim id λ⟨_,a,_⟩=>aX h a
  have B9:=a6 j y y' hj R W;have ad:∀s,aZ1 y' s↔aZ1 y s:=λs=>by unfold aZ1;rw[c5,c6]
  have hw:aW y'↔aW y:=by unfold aW;rw[c1,c8,Y]
  have a5:y'.bJ≠0->y'.lQ=0->∀s,aZ1 y' s->JP w'.ef s:=λf h2 s q=>by grind [T3.EJ,bb9]
  refine⟨?_,λG d hd hg=>?_,λG i c f h2 m o q r=>?_,λf h2 i c q r m o d H h6 h7 h8=>?_,a5,λf h2 j' i s q r H=>?_,B9,λh=>?_,λh=>?_,λf h2=>?_,λf h2=>?_⟩
  .grind
  .rw[c3];rw[c1]at G;rcases E.dn d hd with h|⟨h,_⟩
   .exact U.own G d h hg
   exfalso;rw[h]at hg;have:(g:Int)=j:=hg;omega
  .rw[c3];rw[c1]at G;rw[Y]at f;have h2:bf7 y i:=by unfold bf7 at h2 ⊢;rw[c1,c4,Y]at h2;exact h2
   rcases F q with h|⟨h,M⟩
   .exact U.act G i c f h2 m o h r
   have:=(M.cre _ r).2.2;omega
  .have e:=zD h2;rcases F H with h|⟨h,M⟩
   .subst e;exact U.lone f h2 i c q r m o d h h6 h7 h8
   exfalso;have cP:=M.lone d h6;have D:aW y':=(by subst e;exact U.aw f h2);have:=bt9 I' J' W f D (a5 f h2) q r;have A:(!c.cF)=d.cF:=(by cases h:c.cF<;>cases h':d.cF<;>simp_all);grind
  .have e:=zD h2;subst e;exact bk5 j s y' W h2 (λh=>B9 (.inl h)) (U.in9 f h2 j' i s q r H) (bb9 I R (.inr ⟨_,H⟩))
  .grind [Ra,T3.zp,aW]
  .grind [T3.ar,aY6]
  .grind [T3.aw]
  rcases a1 with e|⟨a,a2,a3,a4|a4⟩
  .rcases U.wt (hw.1 f) (by rw[<-e];exact h2)with⟨D,s,u,B,p,A,e3,e4,e5⟩|⟨h0,h⟩
   .by_cases EL:D=g
    .subst EL;rw[hx]at p;cases p;obtain⟨v,Q,k2,k3⟩:=E.cm A s j B e3 e4 e5;rw[W]at Q;cases Q;exact .inr ⟨k2,.inl ⟨D,x',E.me,k3⟩⟩
    left;obtain⟨X,z0,Nf,y0,f1,f2,f3,f4,f5,f6,_⟩:=I.claim D u p A;obtain rfl:X=s:=oX
    rw[e4]at f2;cases f2;have hl:=um p;have tA:=E.len;obtain⟨u2,C,N⟩:=E.yf D _ EL (fv (l:=w'.gs) (i:=D) oX);rw[p]at C;cases C;have S:=N.same;obtain⟨J,Q,k2⟩:=E.s2 X B e4 f3 (.inl oX);exact⟨D,X,_,J,fv oX,by unfold aT at*;rw[S.1];exact A,by rw[S.2.2.2.2.2.2.2.2.2.1];exact e3,Q,oX⟩
   right;refine⟨by rw[e];exact h0,?_⟩;rcases h with⟨D,u,p,A⟩|⟨t,p,A⟩
   .by_cases EL:D=g
    .subst EL;rw[hx]at p;cases p;rcases E.wk _ A with k|⟨z,t,Q,k2,k3⟩
     .exact .inl ⟨D,x',E.me,k⟩
     grind
    left;have hl:=um p;have tA:=E.len;obtain⟨u2,C,N⟩:=E.yf D _ EL (fv (l:=w'.gs) (i:=D) oX);rw[p]at C;cases C;exact⟨D,_,fv oX,by rw[N.same.2.2.2.2.2.2.2.2.1];exact A⟩
   obtain⟨t',Q,k2⟩:=E.bn j t hj p;grind
  .obtain⟨b,s,B,b2,Z,b4⟩:=a4;exact .inl ⟨g,s,x',B,E.me,b,b2,Z,b4⟩
  exact .inr ⟨a4.1,.inl ⟨g,x',E.me,a4.2⟩⟩
 refine⟨λj u hu=>?_,λm o h=>?_,λd hd=>?_,λs J f h2=>?_⟩
 .grind [me,yf]
 .have D:=E.rl;rcases F h with h|⟨h,M⟩
  .obtain⟨a,b,c⟩:=K.tl m o h;grind [c1]
  refine⟨by rw[h];exact a0.2.2.2.1,λk hk=>?_,M.pP⟩;have:=M.cre k hk;omega
 .rcases E.dn d hd with h|⟨h,_⟩
  .have:=K.dp d h;exact⟨oX,this.2⟩
  subst h;exact⟨by show x.lQ<=n+1;omega,by show w.av≠0;omega⟩
 rcases E.lv s J f h2 with⟨B,a,b,c1,c2,c3,c4,c5⟩|⟨a,b⟩
 .obtain⟨j,u,d1,d2,d3⟩:=K.lv s B a b;by_cases hj:j=g
  .grind [me]
  have hl:=um d2;have tA:=E.len;obtain⟨u2,C,N⟩:=bY5;rw[d2]at C;cases C;have S:=N.same;refine⟨j,_,oX,fv oX,?_⟩;grind [eP]
 grind [me]
theorem bn1.more(K:bn1 n w)(h:n<=R)(k:Int):bn1 R {w with av:=k}:=by
 refine⟨λg x p=>?_,λm o q=>?_,λd r=>?_,K.lv⟩
 .obtain⟨⟨z,s,A,B,t⟩,b,c,d,e,f,u,i,j,v,l⟩:=K.t3 g x p;exact⟨⟨oX,s,oX,oX,t⟩,b,c,d,e,f,u,i,j,v,l⟩
 .obtain⟨a,b,c⟩:=K.tl m o q;exact⟨oX,b,c⟩
 have:=K.dp d r;exact⟨oX,this.2⟩