import Derived.Test.YtadifmnmfnihdaaGreatA07
import Derived.Test.YtadifmnmfnihdaaGreatA08
set_option linter.all false
set_option maxRecDepth 100000
set_option maxHeartbeats 40000000
namespace Go.Proofs.YtadifmnmfnihdaaGreat
open Go.RowKit Mach Go.Proofs.Tryz
variable{sd:fE}{v f w' w2:World}{D Q:Mem}{t E S':Wd}{n z p X cp:Nat}{G:Fx}{J:bi}{A:am}{e:bI}{Y:Int}{N:ap}
theorem Pv:(prog.info? 46).map (λi=>(i.zero,i.size,i.bytes))=some (some (.agg #[I 0,I 0,I 0,I 0,I 0,I 0,I 0,I 0,I 0,I 0,I 0,B false,I 0]),13,104):=kX
theorem underlying39:prog.underlying 39=some (.slice 46):=kX
theorem bc8{P:Program}{ops:Array Oper}{o:Oper}{a:Act}{w:World}{K:Act->World->Prop}{Q:Exit->Act->World->Prop}{E:Prop}(nX:o.guard=none)(f:FuncId)(c:Array Operand)(d:Array TypeId)(n:o.op=.call {callee:=.value (.func f),args:=c,argTypes:=d})(g:∀args,(callFunc f args).run P w=.ok (.enter f args) w)(args:dl)(p:c.map a.eval=args)(post:Ending->World->Prop)(i:Calls P f args w post)(h:∀e b,post e b->∃v,e=.returned v/\K (a.put o.dst v) b):if Region.wanted o (yielded ops a.tmps)=true then Oper.wp P o a w K Q else E:=by
 have j:Region.wanted o (yielded ops a.tmps)=true:=cn1
 rw[aF j];have k:(execOp a.eval o).run P w=.ok (.enter f args) w:=by grind [execOp,resolve,invoke,Act.eval,Deferred.ofValue]
 unfold Oper.wp;rw[k,Oper.upon_enter];refine i.mono ?_;intro e b l;obtain⟨v,rfl,m⟩:=h e b l;exact m
theorem Mc(args:dl)(w:World):(callFunc 144 args).run prog w=.ok (.enter 144 args) w:=by
 have b : (Tryz.f144.name == "runtime.NumGoroutine") = false := kX
 have b : ¬ Tryz.f144.name = "runtime.NumGoroutine" := by simpa using b
 have a:Tryz.f144.body.isNone=false:=kX
 have a:¬Tryz.f144.body=none:=λh=>by rw[h]at a;cases a
 simp[callFunc,func144,go_sem,b,a]
section
variable{af:Nat}{F:Fx}{w w0:World}{m:Mem}{S:Wd}{L:List (Nat×Obj)}
theorem bw3(A:At af F D w0 m w S)(c:S.gs[z]?=e)(b:Int):gt 144 #[bR F,I z,b] w (eL (.agg #[I z,e.at_,e.call,e.bJ,e.lQ,e.bF,e.fire,b,e.res.aJ,e.res.case,e.res.v,e.res.ok,e.res.n]) λw'=>At af F D w0 m w' S):=
 (Lx A.bj z e c b).mono λa w' ⟨d,f⟩=>⟨d,A.cont f⟩
theorem Dy{o:Option Nat}{l:List Ex}:∀b,b≠bH.done->b≠ .aQ->aj (m.eG .done o n) {S with done:=l} b=aj m S b:=by
 intro b c d;have e:∀r,r≠bH.done->∀a,(m.eG .done o n).cU r a=m.cU r a:=λr f a=>Mem.qv m o n a f
 cases b<;>first
  |exact aX ii c
  |exact aX ii d
  |rfl
  |(simp only[aj,gk,Cu,je,Mem.sL _ _ _ (show bH.au≠ .done by simp),e _ (show _≠bH.done by simp),ne_eq,reduceCtorEq,as2];done)
theorem ua{l:List Ex}:aj (m.eG .done n z) {S with done:=l} .aQ=(aj m S .aQ).set 13 (n,l.length,z):=by
 simp only[aj,Mem.cU,Mem.ptr,Mem.eG,reduceCtorEq,dF,dt];rfl
theorem At.bw4(A:At af F D w0 m w S){g c:Nat}{l:List Ex}(b:w.grownBy v (m.aV .done))(a:v.ownsRow af 46 13 (g,l.length,c) l (bT ib 0 l))(d:m.aV .done=g\/w<=g):At af F D w0 (m.eG .done g c) (v.setCell (F.aQ,13) (g,l.length,c)) {S with done:=l}:=
 A.row (r:=.done) (p:=(46,13)) ii ck4 A.bj.aB.aQ sX b a d ii ua Dy
theorem Pw(A:At af F D w0 m v S)(b:S.gs[n]?=e):gt 84 #[bR F,I n] v λa w'=>a=Value.tuple #[]/\∃Q,At af F D w0 Q w' (S.ay n (bu e)):=
 (yE A.bj n e b).mono λa w' ⟨c,Q,d⟩=>⟨c,Q,A.cont d⟩
theorem IM{a:World}{cap:Nat}{v:Value}{o:Obj}{k:Ex}(A:At af F D w0 m f S)(i:w2=f.alloc o)(j:v.ownBlock=m.aV .done)(p:a.ownsRow af 46 13 (n,S.done.length+1,cap) (S.done+1) (bT ib 0 S.done++ib 0 k))(b:w2.grownBy a v.ownBlock)(d:v.ownBlock=n\/w2<=n):At af F D w0 (m.eG .done n cap) (a.setCell (F.aQ,13) (n,S.done.length+1,cap)) {S with done:=S.done++[k]}:=by
 subst i;rw[j]at b d;have e:(S.done++[k]).length=S.done.length+1:=sX
 have q:bT ib 0 (S.done++[k])=bT ib 0 S.done++ib 0 k:=by rw[ni];simp[bT,ib]
 have h:=(A.alloc o).bw4 (l:=S.done++[k]) (g:=n) (c:=cap) b (by rw[e,q];exact p) d;rw[e]at h;exact h
theorem FN(R:bz af F w m S)(g:Nat)(S':Wd)(c:mL S g=S'):gt 91 #[bR F,I g] w (ee (To af F m w S')):=by
 unfold mL at c;simp only[bW,cI]at c;obtain⟨x,hx,c⟩:=c;by_cases z:kJ x.at_=false
 .rw[aF z]at c;cases c
 rw[aE z]at c;have ks:=lM z;by_cases t:1000000<=S.done.length
 .rw[aF t]at c;cases c
 rw[aE t]at c
 cases c;have eM:=bM1;obtain⟨i0,hi,fV,jC,gG⟩:=AC Pv;have c2:=R.dM;have U:=R.NF;obtain⟨aU,Gu,aY,aZ⟩:=R.pB;have HA:=bM3;have X:=bL7;obtain⟨n,Y⟩:=dC (S.done.length);obtain⟨v,A⟩:=dC (m.cU .done S.done.length);rw[<-A]at U;obtain⟨C,Z⟩:=dA Y A;have Kc:Hid (v.ownBlock=m.aV .done):=by rw[A,Mem.mM];exact ag ii
 have Zn:Hid (v.ownBlock≠F.aQ):=by rw[Kc.out];exact R.jv R.aB.aQ sX
 have RE:n<1000001:=oX
 clear R hx Y A z t;have Kz:=ag (λ(H:Array Oper) (o:Oper) (J:Act) (K:Act->World->Prop) (b:Exit->Act->World->Prop) (E:Prop) (W:World) (nX:o.guard=none) (ho:o.op=.call {callee:=.value (.func 144),args:=#[.tmp 9,.tmp 10,.tmp 14],argTypes:=#[76,3,3]}) (ha:(#[.tmp 9,.tmp 10,.tmp 14]:Array Operand).map J.eval=#[.pointer (some ⟨F.aQ,0,none⟩),I g,I S.av]) (hW:W.heap=w.heap) (t:W.os=w.os) (h3:W.tape=w.tape) (h4:W.output=w.output) (hK:∀w1,At af F m w m w1 S->K (J.put o.dst (.agg #[I g,I x.at_,I x.call,I x.bJ,I x.lQ,I x.bF,I x.fire,I S.av,I x.res.aJ,I x.res.case,I x.res.v,B x.res.ok,I x.res.n])) w1)=>bc8 (P:=prog) (ops:=H) (o:=o) (a:=J) (w:=W) (K:=K) (Q:=b) (E:=E) nX 144 _ _ ho (λargs=>Mc args W) _ ha _ (bw3 (HA.out.aI hW t h3 h4) X S.av) (λe w' h=>⟨_,h.1,hK w' h.2⟩));unfold bR;go_enter func91,ntmps91;go_wp2_with fail
 go_region_law (first|(refine Kz _ _ _ _ _ _ _ ii ii ck2 ii ii ii ii ?_;intro wN A1;have RN:=bR3;have d:=RN.owns (r:=.done) (p:=(46,13)) ii dX (n:=n) (by rw[C.out];exact aV9 (f:=ib) (k:=13) (λ_ _=>rfl) S.done 0);rw[show m.cU .done n=v by rw[C.out,Z.out]]at d;have HO:=ag d;have qq:=RN.eS;have l:=RN.NF;rw[show m.cU .done S.done.length=v from Z.out.symm]at l;have Z2:=RN.frozen RN.aB.aQ 13;have l1:=bS4;have HB:=bO7;clear A1 RN d)|(refine jN (us:=#[I g,I x.at_,I x.call,I x.bJ,I x.lQ,I x.bF,I x.fire,I S.av,I x.res.aJ,I x.res.case,I x.res.v,B x.res.ok,I x.res.n]) (w2:=wN) ii (.tmp 8) (.tmp 16) 39 rfl underlying39 hi fV jC gG ii dX dX ii ii cj0 v n _ ii HO ii RE qq ?_;intro gg cap w3 u G bE;have d13:=fW (o:=.cells #[I g,I x.at_,I x.call,I x.bJ,I x.lQ,I x.bF,I x.fire,I S.av,I x.res.aJ,I x.res.case,I x.res.v,B x.res.ok,I x.res.n] 46) G l ii Zn;have M:=fN (o:=.cells #[I g,I x.at_,I x.call,I x.bJ,I x.lQ,I x.bF,I x.fire,I S.av,I x.res.aJ,I x.res.case,I x.res.v,B x.res.ok,I x.res.n] 46) G Z2 l1 ii Zn;obtain⟨Iq,Ns,SH⟩:=ij u G bE;clear u G bE))
 all_goals
  have s:=IM (k:=qu x g S.av) HB ii Kc (by rw[<-C.out];exact Iq) Ns SH;rw[<-C.out]at s;obtain⟨N,Ha,s⟩:∃N,N=_/\At af F m w (m.eG .done gg cap) N _:=⟨_,ii,s⟩;rw[<-Ha];have i:=s.bj;have O:Hid (({S with done:=S.done++[qu x g S.av]}:Wd).gs[g]?=x):=X.out;have d3:=i.eu;have l2:=i.lt i.aB.gs;have l3:=i.lt i.aB.aQ;have g1:=i.g O 1 _ ii;have a0:=i.frozen i.aB.gs (g*25+1);have vV:=ag (s.g O {x with at_:=x.at_+1} (q:=1) (v:=I (x.at_+1)));have Hb:Hid ((({S with done:=S.done++[qu x g S.av]}:Wd).ay g {x with at_:=x.at_+1}).gs[g]?=some {x with at_:=x.at_+1}):=az O;clear s Ha i d13 M l Z2 c2 U;go_wp2_with (go_at_call 84;refine(Pw (S:=({S with done:=S.done++[qu x g S.av]}:Wd).ay g {x with at_:=x.at_+1}) vV.out.aI Hb).mono ?_;rintro e w6 ⟨rfl,m6,T⟩;have j:=T.bj;have FO:=ag (az (y:=bu {x with at_:=x.at_+1}) Hb);have q3:=j.eu;simp only[Wd.ay,kI]at q3;have l4:=j.lt j.aB.gs;have l5:=j.lt j.aB.aQ;have q2:=j.g FO 2 _ ii;have a1:=j.frozen j.aB.gs (g*25+2);have HZ:=ag (T.g FO {bu {x with at_:=x.at_+1}with ae:=0} (q:=2) (v:=I 0));clear T j);go_end0;refine⟨ii,_,HZ.out.eq ?_⟩;rw[aA,aA]
section
variable(R:bz af F w m S)(aG:Good S)(g:Nat)(x:bI)(hx:S.gs[g]?=x)(ch:Int)(bO:eX ch)
include R aG g x hx ch bO
theorem bt6(a:x.ae=10)(S':Wd)(b:rE S g {cK:=true,g:=g,ch:=ch,case:= -1}=S'):gt 108 #[bR F,I g,ch] w (ee (To af F m w S')):=by
 obtain⟨l,c3,n,o⟩:=bK4;have c2:=R.dM;obtain⟨p,q,r,s,t,u,c,v,y⟩:=bM4;have d:=bM6;rw[a]at d;have f:=bM3;obtain⟨z,i⟩:=dA hx aG;have j:=ag b;clear R hx a aG b;unfold bR;go_enter func108,ntmps108;go_wp2_with (go_at_call 102;refine(BY f.out.bj i g _ _ j).mono ?_;rintro e A ⟨rfl,T⟩;have k:=ag T;clear T);go_end0;exact⟨ii,k⟩
theorem Py(k:x.ae=11)(S2:Wd)(d:lh S (2*ch-2) x.bY=S2):gt 108 #[bR F,I g,ch] w (ee λw'=>To af F m w (S2.ay g {x with bJ:=S2.av,ae:=12}) w'):=by
 obtain⟨A,c3,B,C⟩:=bK4;have c2:=R.dM;obtain⟨E,G,H,J,K,M,p,N,O⟩:=bM4;have r:=bM6;have s:=R.g hx 8 _ ii;rw[k]at r;have t:=bM3;obtain⟨T,U⟩:=dA hx aG;obtain⟨l,n⟩:∃l,x.bY=l:=⟨_,ii⟩;rw[n]at d s;have c:Hid (S2.gs[g]?=x):=by obtain⟨q,b,_,rfl⟩:=qk d;exact hx
 have X:g<S2.gs.length:=um c;have u:=ag d;have f:=ag (λW=>xB ch bO W);clear R hx k aG d n;unfold bR;go_enter func108,ntmps108;go_wp2_with fail
 refine WP 10 kX kX ?_;change wpStill _ _ w.drew (λa=>wpList _ _ _ _ a w.drew) _ _;simp only[sS,aW1,sU,rC];repeat still_step
 still_call ((f _).mono λ_ _ h=>⟨h.1,h.2.symm⟩);repeat still_step
 refine aj0 ?_;go_wp2_with (go_at_call 103;refine(yZ t.out.aI u).mono ?_;rintro e Y ⟨⟨Z,rfl⟩,i⟩;have RN:=i.bj;have e2:=RN.dM;have p2:=RN.g c 2 _ ii;have wW:=bR8;have y:=RN.g c 11 _ ii;have Z5:=bV3;have o:=i.g c {x with bJ:=S2.av} (q:=11) (v:=I S2.av);have j:=o.g (az c) {x with bJ:=S2.av,ae:=12} (q:=2) (v:=I 12);rw[aA]at j;have z:=ag j;clear o j;clear i RN);go_end0;exact⟨ii,m,z⟩
theorem Mf(j:x.ae=14)(s:Nat)(k:x.aN=s)(b:fE)(c:S.ah[s]?=b)(l:b.done):gt 108 #[bR F,I g,ch] w (ee λw'=>To af F m w (S.ay g {x with res:={aJ:=1,case:= -1,v:=b.v,ok:=true},aN:= -1,ae:=15}) w'):=by
 obtain⟨eM,c3,c8,c9⟩:=bK4;have c2:=R.dM;obtain⟨aU,Gu,fO,aY,dx,aZ,r,dz,eB⟩:=bM4;obtain⟨t,xV⟩:=bM2;obtain⟨u,tT⟩:=bQ5;obtain⟨y,tU⟩:=bQ6;obtain⟨z,tV⟩:=bQ7;obtain⟨A,tW⟩:=bQ8;obtain⟨C,tX⟩:=bQ9;rw[j]at t;have E:=bM3;obtain⟨n,ie⟩:=dA hx aG;have mj:s<S.ah.length:=um c;obtain⟨G,H,J⟩:=ij k c l;have K:=ag (E.out.res n {aJ:=1,case:= -1});clear R hx j aG c l k;unfold bR;go_enter func108,ntmps108;go_wp2_with fail
 obtain⟨d,o,A1⟩:∃d,d=_/\At af F m w m d _:=⟨_,ii,K⟩;rw[<-o];have IS:Hid ((S.ay g {x with res:={aJ:=1,case:= -1}}).gs[g]?=some {x with res:={aJ:=1,case:= -1}}):=az n;have R1:=bR3;obtain⟨d9,l1,l3,M,N,O,T,U,k2,W,l2,d3⟩:=bJ1;have X:=bR5;rw[show({x with res:={aJ:=1,case:= -1}}:bI).aN=x.aN from ii,G.out]at W;rw[show(S.ay g {x with res:={aJ:=1,case:= -1}}).ah.length=S.ah.length from rfl]at d9;rw[show(S.ay g {x with res:={aJ:=1,case:= -1}}).gs.length=S.gs.length by simp[Wd.ay]]at d3;have a:(S.ay g {x with res:={aJ:=1,case:= -1}}).ah[s]?=b:=H.out;have s0:=R1.s0 a;have s1:=R1.s a 1 _ ii;have s2:=R1.s a 2 _ ii;have s3:=R1.s a 3 _ ii;have s4:=R1.s a 4 _ ii;have s5:=R1.s a 5 _ ii;have Y:=R1.s a 6 _ ii;rw[J.out]at Y;have p:=A1.g IS {x with res:={aJ:=1,case:= -1,v:=b.v}} (q:=17) (v:=I b.v);have e:=p.g (az IS) {x with res:={aJ:=1,case:= -1,v:=b.v,ok:=true}} (q:=18) (v:=B true);rw[aA]at e;have f:=e.g (az IS) {x with res:={aJ:=1,case:= -1,v:=b.v,ok:=true},aN:= -1} (q:=7) (v:=I (-1));rw[aA]at f;have i:=f.g (az IS) {x with res:={aJ:=1,case:= -1,v:=b.v,ok:=true},aN:= -1,ae:=15} (q:=2) (v:=I 15);rw[aA]at i;have Z:=ag i;clear p e f i;clear R1 a A1 o;go_region
 all_goals
  go_wp2;go_end0;try simp only[aj2,Nat.reduceAdd]
  refine⟨by trivial,m,At.eq (At.aI (Z.out.alloc (.cells #[B b.cK,I b.g,I b.ch,I b.case,B b.cF,I b.v,B true] 105)) ?_ ?_ ?_ ?_) ?_⟩<;>first|rfl|(simp[Wd.ay,my])
theorem Mg(f:x.ae=14)(s:Nat)(i:x.aN=s)(b:fE)(c:S.ah[s]?=b)(j:b.done=false):gt 108 #[bR F,I g,ch] w (ee λw'=>To af F m w (S.ay g {x with res:={aJ:=1,case:= -1},aN:= -1,ae:=15}) w'):=by
 obtain⟨Y,c3,Z,c9⟩:=bK4;have c2:=R.dM;obtain⟨aU,Gu,fO,aY,dx,aZ,o,dz,eB⟩:=bM4;obtain⟨p,xV⟩:=bM2;obtain⟨r,tT⟩:=bQ5;obtain⟨t,tU⟩:=bQ6;obtain⟨u,tV⟩:=bQ7;obtain⟨y,tW⟩:=bQ8;obtain⟨z,tX⟩:=bQ9;rw[f]at p;have A:=bM3;obtain⟨k,ie⟩:=dA hx aG;have mj:s<S.ah.length:=um c;obtain⟨C,E,G⟩:=ij i c j;have H:=ag (A.out.res k {aJ:=1,case:= -1});clear R hx f aG c j i;unfold bR;go_enter func108,ntmps108;go_wp2_with fail
 obtain⟨d,l,A1⟩:∃d,d=_/\At af F m w m d _:=⟨_,ii,H⟩;rw[<-l];have IS:Hid ((S.ay g {x with res:={aJ:=1,case:= -1}}).gs[g]?=some {x with res:={aJ:=1,case:= -1}}):=az k;have R1:=bR3;obtain⟨d9,l1,l3,J,K,M,N,O,k2,T,l2,d3⟩:=bJ1;have U:=bR5;rw[show({x with res:={aJ:=1,case:= -1}}:bI).aN=x.aN from ii,C.out]at T;rw[show(S.ay g {x with res:={aJ:=1,case:= -1}}).ah.length=S.ah.length from rfl]at d9;rw[show(S.ay g {x with res:={aJ:=1,case:= -1}}).gs.length=S.gs.length by simp[Wd.ay]]at d3;have a:(S.ay g {x with res:={aJ:=1,case:= -1}}).ah[s]?=b:=E.out;have s0:=R1.s0 a;have s1:=R1.s a 1 _ ii;have s2:=R1.s a 2 _ ii;have s3:=R1.s a 3 _ ii;have s4:=R1.s a 4 _ ii;have s5:=R1.s a 5 _ ii;have W:=R1.s a 6 _ ii;rw[G.out]at W;have n:=A1.g IS {x with res:={aJ:=1,case:= -1},aN:= -1} (q:=7) (v:=I (-1));have e:=n.g (az IS) {x with res:={aJ:=1,case:= -1},aN:= -1,ae:=15} (q:=2) (v:=I 15);rw[aA]at e;have X:=ag e;clear n e;clear R1 a A1 l;go_region
 all_goals
  go_wp2;go_end0;try simp only[aj2,Nat.reduceAdd]
  refine⟨by trivial,m,At.eq (At.aI (X.out.alloc (.cells #[B b.cK,I b.g,I b.ch,I b.case,B b.cF,I b.v,B false] 105)) ?_ ?_ ?_ ?_) ?_⟩<;>first|rfl|(simp[Wd.ay,my])
theorem IT(j:x.ae=10\/x.ae=11\/x.ae=14)(S':Wd)(a:j1 S g ch=S'):gt 108 #[F.aQ,I g,ch] w (ee (To af F m w S')):=by
 unfold j1 at a;simp only[bW,hx,eN]at a;by_cases b:x.ae=10
 .rw[aF b]at a;exact bt6 R aG g x hx ch bO b _ a
 rw[aE b]at a;by_cases c:x.ae=11
 .rw[aF c]at a;unfold rF at a;simp only[bW,cI,hx,oZ,exists_eq_left']at a;obtain⟨S2,d,a⟩:=a;subst a;exact Py R aG g x hx ch bO c _ d
 rw[aE c]at a;simp only[cI,oZ]at a;obtain⟨s,e,d,f,a⟩:=a;subst a
 cases i:d.done with
 |true=>exact Mf R aG g x hx ch bO oX s (du e) d f i
 |false=>exact Mg R aG g x hx ch bO oX s (du e) d f i
end
theorem Qz(A:At af F D w0 m w S){S':Wd}(a:yo S n=S'):gt 168 #[bR F,I n] w (ee λw'=>∃Q,At af F D w0 Q w' S'):=
 (PB A.bj n S' a).mono λe w' ⟨b,Q,c⟩=>⟨b,Q,A.cont c⟩
theorem TR(R:bz af F w m S)(g:Nat)(x:bI)(hx:S.gs[g]?=x)(c:Int)(t:eX c){b:Int}(d:S.ef.first (2*c-2)=(Y,false))(f:S.ef.first (2*c-1)=(b,false)):gt 110 #[bR F,I g,c] w (ee λw'=>To af F m w (S.ay g {x with ae:=16}) w'):=by
 obtain⟨u,c3,y,z⟩:=bK4;obtain⟨A,B⟩:=bM2;obtain⟨C,E⟩:=bO2;obtain⟨G,H,J,K,M,N,l,O,T⟩:=bM4;have i:=At.refl R;have n:=bL7;have j:=ag (λk=>nk R k);have o:=ag d;have p:=ag f;have r:=ag (i.g n {x with ae:=16} (q:=2) (v:=I 16));clear R hx i d f;unfold bR;go_enter func110,ntmps110;go_wp2_with (first|(go_at_call 149;refine(j _).mono ?_;rintro e s ⟨a,rfl⟩;rw[o.out]at a;subst a)|(go_at_call 149;refine(j _).mono ?_;rintro e s ⟨a,rfl⟩;rw[p.out]at a;subst a));refine UV (ad8 ii _ _ _) ii ?_;exact⟨ii,m,r.out.aI⟩
section
variable(R:bz af F w m S)(g:Nat)(x:bI)(hx:S.gs[g]?=x)(ch:Int)(bO:eX ch){s:Nat}(h1:S.ef.first (2*ch-2)=((s:Int),true)\/∃a,S.ef.first (2*ch-2)=(a,false)/\S.ef.first (2*ch-1)=((s:Int),true))(RY:S.ah[s]?=sd)
include R g x hx ch bO h1 RY
theorem KL(r:0<=sd.case):gt 110 #[bR F,I g,ch] w (ee λw'=>To af F m w (S.ay g {x with br:=s,ae:=23}) w'):=by
 rcases h1 with h1|⟨a,h1,d⟩
 all_goals
  obtain⟨t,c3,u,y⟩:=bK4;obtain⟨z,A⟩:=bM2;obtain⟨B,C⟩:=bO2;obtain⟨E,G,H,J,K,M,j,N,O⟩:=bM4;have A0:=At.refl R;have HX:=bL7;have f:=ag (λk=>nk R k);have l:=ag h1;try have n:=ag d
  have T:s<S.ah.length:=um RY;have U:=R.s RY 3 _ ii;have i:=bV4;have c:=i.g (az HX) {x with br:=s,ae:=23} (q:=2) (v:=I 23);rw[aA]at c;have o:=ag c;clear i c;clear R hx A0 RY h1;try clear d
  unfold bR;go_enter func110,ntmps110;go_wp2_with (first|(go_at_call 149;refine(f _).mono ?_;rintro e p ⟨b,rfl⟩;rw[l.out]at b;subst b)|(go_at_call 149;refine(f _).mono ?_;rintro e p ⟨b,rfl⟩;rw[n.out]at b;subst b));go_end0;exact⟨ii,m,o.out.aI⟩
theorem KM(c:sd.case= -1)(S':Wd)(d:yo (S.ay g {x with br:=s}) g=S'):gt 110 #[bR F,I g,ch] w (ee (To af F m w S')):=by
 rcases h1 with h1|⟨a,h1,f⟩
 all_goals
  obtain⟨B,c3,C,E⟩:=bK4;obtain⟨G,H⟩:=bM2;obtain⟨J,K⟩:=bO2;obtain⟨M,N,O,T,U,W,n,X,Y⟩:=bM4;have A0:=At.refl R;have HX:=bL7;have i:=ag (λk=>nk R k);have o:=ag h1;try have p:=ag f
  have Z:s<S.ah.length:=um RY;have r:=R.s RY 3 _ ii;have j:=bV4;have t:=ag j;have u:=ag d;rw[c]at r;clear j d;clear R hx A0 RY c h1;try clear f
  unfold bR;go_enter func110,ntmps110;go_wp2_with (first|(go_at_call 149;refine(i _).mono ?_;rintro e y ⟨b,rfl⟩;rw[o.out]at b;subst b)|(go_at_call 149;refine(i _).mono ?_;rintro e y ⟨b,rfl⟩;rw[p.out]at b;subst b)|(go_at_call 168;refine(Qz t.out.aI u).mono ?_;rintro e w3 ⟨rfl,z,l⟩;have A:=ag l;clear l));go_end0;exact⟨ii,z,A⟩
theorem KN(p:sd.case< -1):gt 110 #[bR F,I g,ch] w (ee λw'=>To af F m w (S.ay g {x with br:=s}) w'):=by
 rcases h1 with h1|⟨a,h1,c⟩
 all_goals
  obtain⟨r,c3,t,u⟩:=bK4;obtain⟨y,z⟩:=bM2;obtain⟨A,B⟩:=bO2;obtain⟨C,E,G,H,J,K,i,M,N⟩:=bM4;have A0:=At.refl R;have HX:=bL7;have d:=ag (λk=>nk R k);have j:=ag h1;try have l:=ag c
  have O:s<S.ah.length:=um RY;have T:=R.s RY 3 _ ii;have f:=bV4;have n:=ag f;have U:(sd.case== -1)=false:=ci8
  have W:decide (0<=sd.case)=false:=ci8
  clear f;clear R hx A0 RY h1;try clear c
  unfold bR;go_enter func110,ntmps110;go_wp2_with (first|(go_at_call 149;refine(d _).mono ?_;rintro e o ⟨b,rfl⟩;rw[j.out]at b;subst b)|(go_at_call 149;refine(d _).mono ?_;rintro e o ⟨b,rfl⟩;rw[l.out]at b;subst b));go_end0;exact⟨ii,m,n.out.aI⟩
end
section
variable(R:bz af F w m S)(g:Nat)
include R g
theorem Jr(b:Int)(f:eX b)(S':Wd)(a:aZ4 S g b=S'):gt 110 #[F.aQ,I g,b] w (ee (To af F m w S')):=by
 unfold aZ4 sK at a;simp only[bW,cI]at a;obtain⟨x,d,a⟩:=a
 cases c:(S.ef.first (2*b-2)).2 with
 |true=>
  simp only[c,dt,aH6,dF,cI]at a;obtain⟨s,i,n,j,a⟩:=a;have i:=du i;have c:S.ef.first (2*b-2)=((s:Int),true):=Prod.ext i c;by_cases k:0<=n.case
  .rw[aF k]at a
   cases a;exact KL R g x d b f (.inl c) j k
  rw[aE k]at a;by_cases l:n.case= -1
  .rw[aF l]at a;exact KM R g x d b f (.inl c) j l _ a
  rw[aE l]at a
  cases a;exact KN R g x d b f (.inl c) j oX
 |false=>
  simp only[c,nW,dF]at a
  cases e:(S.ef.first (2*b-1)).2 with
  |false=>
   simp only[e,dt]at a;obtain⟨p,o,rfl⟩:=Nb a;rw[d]at o
   cases o;exact TR R g x d b f (Prod.ext ii c) (Prod.ext ii e)
  |true=>
   simp only[e,aH6,dF,cI]at a;obtain⟨s,i,n,j,a⟩:=a;have i:=du i;have e:S.ef.first (2*b-1)=((s:Int),true):=Prod.ext i e;by_cases k:0<=n.case
   .rw[aF k]at a
    cases a;exact KL R g x d b f (.inr ⟨_,Prod.ext ii c,e⟩) j k
   rw[aE k]at a;by_cases l:n.case= -1
   .rw[aF l]at a;exact KM R g x d b f (.inr ⟨_,Prod.ext ii c,e⟩) j l _ a
   rw[aE l]at a
   cases a;exact KN R g x d b f (.inr ⟨_,Prod.ext ii c,e⟩) j oX
theorem Bn(S':Wd)(a:aX0 S g=S'):gt 111 #[bR F,I g] w (ee (To af F m w S')):=by
 have r:=bM3;have c3:=R.eu;have W:=R.dR;have X:=R.ax7;unfold aX0 at a;simp only[bW,cI]at a;obtain⟨x,hx,s,d,Y,l,z,f,y,i,a⟩:=a;have d:=du d;have f:=du f;by_cases t:z=g
 .rw[aF t]at a;cases a
 rw[aE t]at a;have Z:=bM1;have Ay:z<S.gs.length:=um i;have mj:s<S.ah.length:=um l;obtain⟨C,Rz⟩:=bO2;obtain⟨g2,xV⟩:=bM2;obtain⟨u,E⟩:=R.ps i 6 rfl;have G:=R.s l 1 _ ii;obtain⟨aU,Gu,fO,aY,dx,aZ,H,dz,eB⟩:=bM4;rw[d]at C;rw[f]at G;by_cases c:y.aR=true
 .rw[aF c]at a;simp only[cI]at a;obtain⟨J,o,a⟩:=a
  cases a;rw[c]at u;have K:=ag o;have A:J.gs[g]?=x:=by obtain⟨q,b,_,rfl⟩:=mF o;exact hx
  have n:=ag A;clear R hx l i d f c o A;unfold bR;go_enter func111,ntmps111;go_wp2_with fail
  go_quiet (fail);go_wp2_with (go_at_call 150;(refine(kv r.out.aI K).mono ?_;rintro e U ⟨⟨b,rfl⟩,p⟩;have R3:=p.bj;have p9:=R3.g n 9 _ ii;have M:=R3.frozen R3.aB.gs (g*25+9);have N:=R3.g n 2 _ ii;have O:=bO1;have T:=ag p;clear p R3));go_end0;have j:=T.out.g n {x with br:= -1} (q:=9) (v:=I (-1));have k:=j.g (az n) {x with br:= -1,ae:=22} (q:=2) (v:=I 22);rw[aA]at k;exact⟨ii,m,k⟩
 rw[aE c]at a;have n:y.aR=false:=by simpa using c
 rw[n]at u;simp only[cI]at a;obtain⟨S4,o,a⟩:=a;obtain⟨J,p,rfl⟩:=Nb a;have A1:=r.out.g i {y with aR:=true} (q:=6) (v:=B true);have K:=bO7;obtain⟨M,A⟩:=dA o p;clear R hx l i d f c n o p a A1;unfold bR;go_enter func111,ntmps111;go_wp2_with fail
 go_quiet (fail);go_wp2_with (go_at_call 168;refine(Qz K.out.aI M).mono ?_;rintro e w3 ⟨rfl,T,j⟩;have R4:=j.bj;have N:=R4.g A 2 _ ii;have O:=bO8;have k:=j.g A {J with ae:=22} (q:=2) (v:=I 22);have U:=ag k;clear j k R4);go_end0;exact⟨ii,T,U⟩
theorem vq(x:bI)(hx:S.gs[g]?=x)(s:Nat)(o:x.aN=s)(a:fE)(c:S.ah[s]?=a){b:nP}(t:(a.done/\a.cF/\b={aJ:=1,case:=a.case,ok:=true})\/(a.done/\a.cF=false/\b={aJ:=1,case:=a.case,ok:=true,v:=a.v})\/(a.done=false/\a.cF/\b={aJ:=3,case:=a.case})\/(a.done=false/\a.cF=false/\b={aJ:=1,case:=a.case})):gt 119 #[bR F,I g] w (ee λw'=>At af F m w m w' (S.ay g {x with res:=b,aN:= -1,k:=0,ae:=31})):=by
 have O:=bM1;have T:s<S.ah.length:=um c;have c3:=R.eu;have U:=R.ax7;obtain⟨W,X,Y,Z,dx,aZ,u,dz,eB⟩:=bM4;obtain⟨g2,xV⟩:=bM2;obtain⟨y,z⟩:=R.ps hx 7 rfl;obtain⟨A,tT⟩:=bQ5;obtain⟨C,tU⟩:=bQ6;obtain⟨E,tV⟩:=bQ7;obtain⟨G,tW⟩:=bQ8;obtain⟨H,tX⟩:=bQ9;obtain⟨J,K⟩:=bQ3;have s0:=R.s0 c;have s1:=R.s c 1 _ ii;have s2:=R.s c 2 _ ii;have s3:=R.s c 3 _ ii;have M:=R.s c 4 _ ii;have s5:=R.s c 5 _ ii;have N:=R.s c 6 _ ii;rw[o]at y;have p:=(At.refl R).res hx b;have i:=p.g (az hx) {x with res:=b,aN:= -1} (q:=7) (v:=I (-1));rw[aA]at i;have j:=i.g (az hx) {x with res:=b,aN:= -1,k:=0} (q:=24) (v:=I 0);rw[aA]at j;have l:=j.g (az hx) {x with res:=b,aN:= -1,k:=0,ae:=31} (q:=2) (v:=I 31);rw[aA]at l;have f:=(l.alloc (.cells #[B a.cK,I a.g,I a.ch,I a.case,B a.cF,I a.v,B a.done] 105)).alloc (.cells #[I b.aJ,I b.case,I b.v,B b.ok,I b.n] 44);clear p i j l;rcases t with⟨d,e,rfl⟩|⟨d,e,rfl⟩|⟨d,e,rfl⟩|⟨d,e,rfl⟩
 all_goals
  rw[d,e]at f;dsimp only at f;rw[d]at N;rw[e]at M;have r:=ag f;clear f R hx o c d e;unfold bR;go_enter func119,ntmps119;go_wp2_with fail
  go_region
  all_goals
   go_wp2
   first
    |(go_end0
      refine⟨ii,?_⟩
      try simp only[aj2,Nat.reduceAdd]
      exact r.out.drew)
    |(go_region
      all_goals go_wp2
      go_end0
      refine⟨ii,?_⟩
      try simp only[aj2,Nat.reduceAdd]
      exact r.out.drew.drew)
theorem MJ(S':Wd)(c:uF S g=S'):gt 119 #[F.aQ,I g] w (ee λw'=>At af F m w m w' S'):=by
 unfold uF at c;simp only[bW,cI]at c;obtain⟨x,d,s,a,b,e,c⟩:=c;have a:=du a
 cases c
 cases hd:b.done<;>cases Ar:b.cF
 .have h:=vq R g x d s a b e (.inr (.inr (.inr ⟨hd,Ar,ii⟩)));exact cd4
 .have h:=vq R g x d s a b e (.inr (.inr (.inl ⟨hd,Ar,ii⟩)));exact cd4
 .have h:=vq R g x d s a b e (.inr (.inl ⟨hd,Ar,ii⟩));exact cd4
 have h:=vq R g x d s a b e (.inl ⟨hd,Ar,ii⟩);exact cd4
end
end
section
variable{w0:World}
def uU(l:bv):bi:=l.map λ(x:Nat)=>I ((x:Nat):Int)
theorem yN(R:bz z G f D E)(q:V.xQ E.ef N)(k:Nat)(l:bv)(u:N[k]?=l)(hl:l.length<=1000)(vA:E.ef.bM.length<=1000)(A:E.ef.aS.length<=1000):gt 56 #[G.ef,I k] f λe B=>∃a c,e=Value.slice a l c/\gC B a l (uU l)/\Below f f B/\∀(b:Nat) (off:Nat),a=(b,off)->f<=b/\b<B:=by
 obtain⟨i0,hi,fV,jC,gG⟩:=AC lC;have C:∀W:World,(Instr.makeSlice 28 (I 0) (I l.length)).run prog W=.ok (.slice (some ⟨W.heap.size,0,none⟩) 0 l.length) (W.alloc (.cells (madeCells (I 0).cells (l.length*i0.size)) 3)):=λW=>av9 (P:=prog) 28 3 i0 underlying28 hi fV .i64 .i64 0 l (wn _) cl1 oX W
 rw[jC]at C;have H:k<E.ef.bM.length:=by rw[q.len];exact fm u
 have UI:=q.line k l u;obtain⟨J,L1,K⟩:=R.line UI;have c1:=R.yq;have a1:=R.lt R.aB.ef;have a2:=R.lt R.aB.bM;obtain⟨NL,r⟩:∃d,d=E.ef.bM.length:=⟨_,ii⟩;rw[<-r]at c1 H vA;obtain⟨n,v⟩:=dC (l.length);rw[<-v]at C hl ⊢;simp only at J L1 K;rw[<-v]at K;obtain⟨HR,HQ,HK,Hn⟩:=ia R q u v;obtain⟨x0,L⟩:=dC (V.BC l);rw[<-L]at J;have M:=ag L;clear R q u v UI r L L1;go_enter func56,ntmps56;go_wp2_with go_in;have jf:Hid (∃i,(f.alloc (.cells (madeCells #[I 0] n) 3)).ownsRow f 3 1 (.slice f 0 i) 0 (uU (l.take 0))/\i=n/\Below f f (f.alloc (.cells (madeCells #[I 0] n) 3))):=by refine⟨n,⟨ii,.inr ⟨f.heap.size,n,_,ii,rx _,dP,wn _,cj7,by simp[aw9],by simp[uU]⟩⟩,ii,(fp).alloc cG _⟩
 clear C c1 J K;go_loopw [5,6] (λout x wr=>∃(j g i:Nat),out=.slice g j i/\j<=n/\x=I (V.BC (l.drop j))/\Hid (wr.ownsRow f 3 1 (.slice g j i) j (uU (l.take j))/\Below f f wr)) (λout _ _=>n-(match out with| .slice _ j _=>j|_=>0))
 case atStart=>
  obtain⟨i,o,s,p⟩:=jf.out;subst s;exact⟨0,f.heap.size,i,ii,oX,by rw[rC,<-M.out],o,p⟩
 clear jf;obtain⟨j,g,i,rfl,hj,rfl,t⟩:=hrel;by_cases dD:j<n
 .obtain⟨y,hy⟩:∃y,l[j]?=some y:=⟨_,fv cn8⟩;have O:l.drop j=y::l.drop (j+1):=by grind [List.drop_eq_getElem_cons]
  have Ax:l=l.take j++y::l.drop (j+1):=by rw[<-O,bH1]
  have T:=HQ.out.thing k (l.take j) (l.drop (j+1)) y (by rw[<-Ax];exact HK);have U:y<E.ef.aS.length:=fm T;rw[O,V.lF];obtain⟨NT,p⟩:∃d,d=E.ef.aS.length:=⟨_,ii⟩;rw[<-p]at U A;have VJ:=ag T;have HY:=ag (dO hy p);have X:f.heap.size<=wr.heap.size:=t.out.2.size;have Y:=ag t.out.1;clear T O Ax hy p;go_wp2_with (first|(at_builtin;go_loud (refine aY2 (us:=#[I y]) (w2:=wr) ii (.tmp 38) (.tmp 40) 28 rfl underlying28 hi fV jC gG ii dX dX ii ii cj0 (.slice g j i) j ii Y wr ii ii oX X ?_)));intro g2 On Z a0 jE lN
  have yJ:Below f f Z:=by
   refine(t.out.2.alloc X _).grown jE ci8 (λb hb=>?_);simp[Value.ownBlock]at hb;subst hb;rcases Y.out.2 with⟨o,s⟩|⟨g',_,_,o,s,_⟩
   all_goals grind
  have R3:=HR.out.below yJ;have c0:=R3.xN;rw[<-HY.out.2]at c0;have t1:=(R3.thing VJ).2.1;have HN:Hid (Z.ownsRow f 3 1 (g2,j+1,On) (j+1) (uU (l.take (j+1)))/\Below f f Z):=by refine⟨?_,yJ⟩;rw[ox HY.out.1];grind [uU]
  clear t Y a0 jE lN yJ R3 X;go_wp2;go_roundw;all_goals grind
 obtain rfl:j=n:=oX
 have p:l.drop j=[]:=by rw[Hn.out];exact List.drop_length
 rw[p,V.CE];clear p;go_wp2;go_ret;obtain⟨o,s⟩:=t.out;rw[Hn.out,aj3,<-Hn.out]at o;exact⟨_,_,ii,gC.tO o,s,lJ o⟩
theorem Zi:(prog.info? 2).map (λi=>(i.zero,i.size,i.bytes))=(some (I 0),1,8):=kX
def qi(r:Ring)(n:Nat):bi:=(List.range n).map λ(i:Nat)=>I (r.pl0.getD (r.at_ i) 0)
theorem Ox(R:bz z G f D E){r:Ring}(h:E.au[n]?=r)(X:D.aV (.eU n)=p)(B:r.Ok):gt 54 #[p] f λe L=>∃a c,e=Value.slice a r.count.toNat c/\gC L a r.count.toNat (qi r r.count.toNat)/\Below f f L/\∀(b:Nat) (off:Nat),a=(b,off)->f<=b/\b<L:=by
 obtain⟨i0,hi,fV,jC,gG⟩:=AC Zi;obtain⟨d,hn⟩:∃d:Nat,r.count=d:=⟨r.count.toNat,by have:=B.c0;omega⟩;have Zj:d<=64:=by have:=B.c1;have:=B.len;omega
 have Fb:d<=r.pl0.length:=by have:=B.c1;omega
 have sN:∀W:World,(Instr.makeSlice 57 (I 0) (I d)).run prog W=.ok (.slice (some ⟨W.heap.size,0,none⟩) 0 d) (W.alloc (.cells (madeCells (I 0).cells (d*i0.size)) 2)):=λW=>av9 (P:=prog) 57 2 i0 underlying57 hi fV .i64 .i64 0 d (wn _) cl1 oX W
 rw[jC]at sN;rw[hn];simp only[oU];obtain⟨Hw,gr,pa,pc,hh,q0,q1,q2,q3⟩:=R.eU h;rw[X]at gr;cases gr;rw[hn]at q2;have a3:=R.lt X;obtain⟨M,Y⟩:=bO6;rw[<-Y]at q0 Fb;have a4:M<=64:=by rw[Y];exact B.len
 obtain⟨HR,HH,uv,lP,HP,Z⟩:=mr R h X B q3 Y;have jf:Hid ((f.alloc (.cells (madeCells #[I 0] d) 2)).ownsRow f 2 1 (.slice f 0 d) 0 (qi r 0)/\Below f f (f.alloc (.cells (madeCells #[I 0] d) 2))):=by refine⟨⟨ii,.inr ⟨f.heap.size,d,_,ii,rx _,dP,wn _,cj7,by simp[aw9],by simp[qi]⟩⟩,(fp).alloc cG _⟩
 have HQ:Hid (∀W,Below f.heap.size f W->W.cell? ⟨p,0,none⟩=some (.slice pa M pc)/\W.cell? ⟨p,2,none⟩=some (I d)):=λW C=>⟨cw C cG _ _ q0,cw C cG _ _ q2⟩
 clear R h X B hh q1 q3 hn Y q0;go_enter func54,ntmps54;go_wp2;clear sN q2;go_loopw [3,14] (λout n wr=>∃(j g cp:Nat),out=(g,j,cp)/\n=.int .i64 j/\j<=d/\Hid (wr.ownsRow f 2 1 (g,j,cp) j (qi r j)/\Below f f wr)) (λ_ n _=>d-(intOf n).toNat)
 case atStart=>exact⟨0,f.heap.size,d,ii,ii,oX,jf⟩
 clear jf;obtain⟨j,g,cp,rfl,rfl,hj,H⟩:=hrel;by_cases dD:j<d
 .obtain⟨l,ks⟩:∃a,a=r.at_ j:=⟨_,ii⟩;have VW:l<M:=by rw[ks,Z.out];unfold Ring.at_;have N:(0:Int)<r.pl0.length:=(by have:=Z.out;omega);have h1:=as1 (r.first+(j:Int)) (b:=(r.pl0.length:Int)) oX;have h2:=aj7 (r.first+(j:Int)) N;omega
  obtain⟨y,O⟩:∃y,r.pl0[l]?=some y:=⟨_,fv (by rw[<-Z.out];exact VW)⟩;obtain⟨J,CJ,rfl,a0,Nh⟩:=HP.out (by intro e;rw[e]at O;simp at O);have q:=H.out.2;have UL:=HR.out.below q;obtain⟨d0,d2⟩:=HQ.out wr q;have dy:wr.cell? (J,l)=some (I y):=cw q cG _ _ (Nh l y O);have UA:Hid (∀W,W.heap=wr.heap->gt 87 #[p,I j] W λe L=>e=I l/\∃d,L=W.drewN d):=λW hW=>by rw[ks];exact xR (UL.heap (λ_ b _=>by rw[hW])) HH uv lP j oX (by have:=Z.out;omega)
  have qq:f.heap.size<=wr.heap.size:=q.size;have nv:=ag H.out.1;have HY:=ag (dO O ks);have Np:=ag (λ(a1:Array Oper) (o:Oper) (ac:Act) (K:Act->World->Prop) (i:Exit->Act->World->Prop) (k:Prop) (u:World)=>jN (P:=prog) (ops:=a1) (o:=o) (a:=ac) (K:=K) (Q:=i) (E:=k) (s:=.tmp 17) (x:=.tmp 27) (t:=57) (ht:=underlying57) (hi:=hi) (hz:=fV) (hsize:=jC) (hby:=gG) (hzs:=rfl) (hsz:=ax5) (hbb:=vJ) (w2:=wr) (W3:=u) (us:=#[I y]) (hus:=rfl) (h1:=aI8 y) (v:=(g,j,cp)) (n:=j) (xs:=qi r j) (hown:=nv.out) (hn:=oX) (hbase:=qq));have a5:f<=g:=by rcases nv.out.2 with⟨h1,_⟩|⟨g',_,_,h1,h2,_⟩;all_goals grind
  have a6:J<f:=HR.out.lt CJ
  have T:Hid (∀u A:World,u.heap=(wr.alloc (.cells #[I y] 2)).heap->u.grownBy A (some g)->(A.cell? ⟨p,0,none⟩=some (.slice (some ⟨J,0,none⟩) M pc)/\A.cell? ⟨J,l,none⟩=some (I y))/\(u.os=wr.os->u.tape=wr.tape->u.output=wr.output->Below f.heap.size f A)):=λu A hW hg=>by
   have hs:u=wr.heap.size+1:=(by rw[hW];simp);have key:∀b,b<f.heap.size->A.heap[b]?=wr.heap[b]?:=λb C=>by grind [World.grownBy.block,Go.RowKit.Below.heap_alloc]
   refine⟨⟨?_,?_⟩,λo1 o2 o3=>⟨hg.os.trans (o1.trans q.os),hg.tape.trans (o2.trans q.tape),hg.output.trans (o3.trans q.output),by have:=hg.size;have:=q.size;omega,λb C=>(key b C).trans (q.block b C)⟩⟩
   .grind [Go.World.cell?_of_block]
   grind [Go.World.cell?_of_block]
  clear Nh CJ a0 ks O UL q;go_upto_region 5 with fail
  go_region_held3 (λW=>W.cell? ⟨p,0,none⟩=some (.slice (some ⟨J,0,none⟩) M pc)/\W.cell? ⟨J,l,none⟩=some (I y)) (first|exact⟨d0,dy⟩|exact⟨‹_›,‹_›⟩|go_keep)
   (first
    |(go_at_call 87;refine(UA _ ?_).mono ?_;rfl;rintro e w2 ⟨rfl,kk,rfl⟩)
    |(refine Np _ _ _ _ _ _ _ ii ii ii ii ii ?_;intro g2 On A U jE lN;have a2:=T.out _ _ co0 jE;obtain⟨⟨d0,dy⟩,Hl⟩:=a2))
  have HN:Hid (A.ownsRow f 2 1 (g2,j+1,On) (j+1) (qi r (j+1))/\Below f f A):=by refine⟨?_,Hl ii ii ii⟩;have e:qi r (j+1)=qi r j++[I y]:=(by grind [qi,List.range_succ,Hid.out]);rw[e];exact U
  clear H nv U jE lN Hl Np T UA d0 dy d2;go_wp2;go_roundw
  case rel=>exact⟨j+1,g2,On,sX,cj8,oX,HN⟩
  simp[intOf];omega
 obtain rfl:j=d:=oX
 go_wp2;go_ret;exact⟨_,_,ii,gC.tO H.out.1,H.out.2,lJ H.out.1⟩
end
inductive SK|box|gs|cache|nA
 deriving DecidableEq
def tyS:SK->Option (Nat×Nat)| .box=>some (41,12)| .gs=>some (100,25)| .cache=>some (28,1)| .nA=>some (59,6)
def Oy(S:Wd)(g h b c d e a:Value):bi:=[S.dV,S.eT,S.av,g,h,b,c,d,S.Eg.cO,e,S.drawn,a]
def VX(a:Nat)(wr:World)(c:SK->Option Nat)(P:World->Prop):Prop:=∀W:World,(∀b,a<=b->b<wr->(∀k,c k≠b)->W.heap[b]?=wr.heap[b]?)->P W
structure StO(w wr:World)(S:Wd)(bx:Nat)(v5 v7 v9 v11:Value)(i q k:Nat)(g c h:Value)(cg cc ch:bi)(P:World->Prop)(aV:SK->Option Nat)(cap:SK->Nat)(ct:SK->bi):Prop where
 own:cN w w wr aV tyS cap ct
 box:aV .box=bx
 SC:cap .box=1
 Zk:ct .box=Oy S g h v5 c v7 v9 v11
 hg:g=nG (aV .gs) i (cap .gs)
 Zl:ct .gs=cg
 hc:c=nG (aV .cache) q (cap .cache)
 mP:ct .cache=cc
 hh:h=nG (aV .nA) k (cap .nA)
 bO:ct .nA=ch
 off:VX w wr aV P
def mw(w wr:World)(S:Wd)(b:Nat)(d e f a:Value)(i q k:Nat)(g c h:Value)(j l m:bi)(P:World->Prop):Prop:=∃n cap o,StO w wr S b d e f a i q k g c h j l m P n cap o
section
variable{w wr:World}{S:Wd}{bx i q k:Nat}{v5 v7 v9 v11 g c h:Value}{cg cc ch:bi}{P:World->Prop}
section
variable(H:mw w wr S bx v5 v7 v9 v11 i q k g c h cg cc ch P)
include H
theorem mw.more(f:Below wr wr w'){Q:World->Prop}(j:∀W,lO wr w' W->P W->Q W):mw w w' S bx v5 v7 v9 v11 i q k g c h cg cc ch Q:=by
 obtain⟨l,cap,m,H⟩:=H;refine⟨l,cap,m,H.own.eC f,H.box,H.SC,H.Zk,H.hg,H.Zl,H.hc,H.mP,H.hh,H.bO,λW n=>j W (λb a d=>n b (jm H.own.tL a) d λk e=>by have:=H.own.lt e;omega) (H.off W λb a d o=>?_)⟩;grind [Below.block]
theorem mw.eC(a:Below wr wr w'):mw w w' S bx v5 v7 v9 v11 i q k g c h cg cc ch P:=H.more a λ_ _ h=>h
theorem mw.imp{Q:World->Prop}(a:∀W,P W->Q W):mw w wr S bx v5 v7 v9 v11 i q k g c h cg cc ch Q:=H.more (fp) λW _ h=>a W h
end
theorem mw.drew(H:mw w wr S bx v5 v7 v9 v11 i q k g c h cg cc ch P):mw w wr.drew S bx v5 v7 v9 v11 i q k g c h cg cc ch P:=H.eC (fp).drew
theorem mw.alloc(H:mw w wr S bx v5 v7 v9 v11 i q k g c h cg cc ch P)(o:Obj):mw w (wr.alloc o) S bx v5 v7 v9 v11 i q k g c h cg cc ch P:=H.eC ((fp).alloc cG o)
theorem mw.lo(H:mw w wr S bx v5 v7 v9 v11 i q k g c h cg cc ch P):Below w w wr/\w<=wr.heap.size:=by
 obtain⟨a,cap,b,H⟩:=H;exact⟨H.own.below,H.own.tL⟩
theorem mw.cell(H:mw w wr S bx v5 v7 v9 v11 i q k g c h cg cc ch P)(j:Nat)(v:Value)(a:(Oy S g h v5 c v7 v9 v11)[j]?=v):wr.cell? (bx,j)=v:=by
 obtain⟨b,cap,d,H⟩:=H;exact H.own.cell H.box (by rw[H.Zk];exact a)
theorem mw.frozen(H:mw w wr S bx v5 v7 v9 v11 i q k g c h cg cc ch P)(j:Nat):wr.frozen? (bx,j)=false:=by
 obtain⟨a,cap,b,H⟩:=H;exact H.own.frozen H.box j
section
variable{aV:SK->Option Nat}{r:SK}
theorem VX.row{g:Nat}(h:VX z wr aV P)(a:wr.grownBy w' (aV r))(d:aV r=g\/wr<=g):VX z w' (up aV r g) P:=λW e=>h W λb f j l=>by
 grind [ub,aD,World.grownBy.block]
theorem VX.set{b j:Nat}{v:Value}(h:VX z wr aV P)(a:aV r=b):VX z (wr.setCell (b,j) v) aV P:=λW d=>h W λe f l m=>by
 grind [Go.RowKit.Below.heap_setCell]
end
section
variable(H:mw w wr S bx v5 v7 v9 v11 i q k g c h cg cc ch P)
include H
theorem mw.Oz(b:wr.grownBy w' g.ownBlock)(a:w'.ownsRow w 100 25 (z,n,cp) n J)(d:g.ownBlock=z\/wr<=z):mw w (w'.setCell (bx,3) (z,n,cp)) S bx v5 v7 v9 v11 n q k (z,n,cp) c h J cc ch P:=by
 obtain⟨f,cap,m,H⟩:=H;have l:g.ownBlock=f .gs:=by rw[H.hg];exact mJ
 rw[l]at b d;have O:=H.own.row (r:=.gs) (p:=(100,25)) (λq h=>cs2) b a d;have e:up f .gs z .box=bx:=by rw[aD dX];exact H.box
 refine⟨_,_,_,O.set (r:=.box) (j:=3) (v:=(z,n,cp)) e,e,by rw[aD dX];exact H.SC,?_,?_,?_,?_,?_,?_,?_,(H.off.row b d).set e⟩
 .rw[ub,aD dX,H.Zk];rfl
 .rw[ub,ub];rfl
 .rw[aD dX,ub]
 .rw[aD dX,aD dX];exact H.hc
 .rw[aD dX,aD dX];exact H.mP
 .rw[aD dX,aD dX];exact H.hh
 rw[aD dX,aD dX];exact H.bO
theorem mw.OA(b:wr.grownBy w' c.ownBlock)(a:w'.ownsRow w 28 1 (z,n,cp) n J)(d:c.ownBlock=z\/wr<=z):mw w (w'.setCell (bx,6) (z,n,cp)) S bx v5 v7 v9 v11 i n k g (z,n,cp) h cg J ch P:=by
 obtain⟨f,cap,m,H⟩:=H;have l:c.ownBlock=f .cache:=by rw[H.hc];exact mJ
 rw[l]at b d;have O:=H.own.row (r:=.cache) (p:=(28,1)) (λq h=>cs2) b a d;have e:up f .cache z .box=bx:=by rw[aD dX];exact H.box
 refine⟨_,_,_,O.set (r:=.box) (j:=6) (v:=(z,n,cp)) e,e,by rw[aD dX];exact H.SC,?_,?_,?_,?_,?_,?_,?_,(H.off.row b d).set e⟩
 .rw[ub,aD dX,H.Zk];rfl
 .rw[aD dX,aD dX];exact H.hg
 .rw[aD dX,aD dX];exact H.Zl
 .rw[ub,ub];rfl
 .rw[aD dX,ub]
 .rw[aD dX,aD dX];exact H.hh
 rw[aD dX,aD dX];exact H.bO
theorem mw.OB(b:wr.grownBy w' h.ownBlock)(a:w'.ownsRow w 59 6 (z,n,cp) n J)(d:h.ownBlock=z\/wr<=z):mw w (w'.setCell (bx,4) (z,n,cp)) S bx v5 v7 v9 v11 i q n g c (z,n,cp) cg cc J P:=by
 obtain⟨f,cap,m,H⟩:=H;have l:h.ownBlock=f .nA:=by rw[H.hh];exact mJ
 rw[l]at b d;have O:=H.own.row (r:=.nA) (p:=(59,6)) (λq h=>cs2) b a d;have e:up f .nA z .box=bx:=by rw[aD dX];exact H.box
 refine⟨_,_,_,O.set (r:=.box) (j:=4) (v:=(z,n,cp)) e,e,by rw[aD dX];exact H.SC,?_,?_,?_,?_,?_,?_,?_,(H.off.row b d).set e⟩
 .rw[ub,aD dX,H.Zk];rfl
 .rw[aD dX,aD dX];exact H.hg
 .rw[aD dX,aD dX];exact H.Zl
 .rw[aD dX,aD dX];exact H.hc
 .rw[aD dX,aD dX];exact H.mP
 .rw[ub,ub];rfl
 rw[aD dX,ub]
end
theorem yO{n:Nat}:∀(a:List bi),(∀A∈a,A=n)->a.flatten=a.length*n
 | [],_=>sX
 |A::a,h=>by rw[as5,aU7,yO a (λB b=>h B (nO _ b)),h A (rn),sV,Nat.add_mul,Nat.one_mul,Nat.add_comm]
end
def yP(x:bI)(a:Int)(b:Bool)(c d e f g:Value):bi:=
 [c,x.at_,x.ae,a,b,x.call,x.aR,x.aN,x.bY,x.br,x.t,x.bJ,x.lQ,x.bF,x.fire]++ru x.res++[d,e,f,g,x.k]
def Zq(x:bI)(f:Int)(g:Bool)(A:bi)(W:World):Prop:=
 ∃a h b d1 c d2 d d3 e d4,A=yP x f g (.slice a x.ops h) (.slice b x.aH d1) (.slice c x.aq d2) (.slice d x.bA d3) (.slice e x.OK d4)/\
  kC W a x.ops/\gC W b x.aH (x.aH.map I)/\gC W c x.aq (x.aq.map I)/\gC W d x.bA (x.bA.map I)/\gC W e x.OK (x.OK.map I)
def HRd(S:Wd)(a:ap)(k:Nat)(r:Ring)(D:bi)(W:World):Prop:=
 ∃b f c d g e h,D=[I r.pl0,.slice b r.count.toNat f,B c,(owner S.aq k),.slice d (a.getD (2*k) []).length g,.slice e (a.getD (2*k+1) []).length h]/\S.aO[k]?=c/\
  gC W b r.count.toNat (qi r r.count.toNat)/\gC W d (a.getD (2*k) []).length (uU (a.getD (2*k) []))/\gC W e (a.getD (2*k+1) []).length (uU (a.getD (2*k+1) []))
structure yQ(S:Wd)(ls:ap)(sa ma da xa:am)(As:List bi)(Vs:bi)(Ds:List bi)(W:World):Prop where
 Rw:gC W sa S.ah (bT mg 0 S.ah)
 mid:gC W ma S.Eg.aK (S.Eg.aK.map I)
 UB:gC W da S.UB (S.UB.map U)
 done:gC W xa S.done (bT ib 0 S.done)
 gs:∀(j:Nat) x A,S.gs[j]?=some x->As[j]?=some A->Zq x (bU S.ax j) (token S.ax j) A W
 aC:∀(j:Nat) x v,S.Eg.aC[j]?=some x->Vs[j]?=some v->∃a cp,v=.slice a x cp/\gC W a x (x.map I)
 nA:∀(k:Nat) r D,S.au[k]?=some r->Ds[k]?=some D->HRd S ls k r D W
section
variable{S:Wd}{ls:ap}{sa ma da xa:am}{As:List bi}{Vs:bi}{Ds:List bi}
theorem yR{α:Type}{l:List α}{a b:α}(h:(l++[a])[n]?=b):l[n]?=b\/n=l/\b=a:=by
 grind
section
variable(H:yQ S ls sa ma da xa As Vs Ds v)
include H
theorem yQ.Oz(b:S.gs[As.length]?=e)(c:Zq e (bU S.ax As) (token S.ax As) J v):yQ S ls sa ma da xa (As++[J]) Vs Ds v:=
 ⟨H.Rw,H.mid,H.UB,H.done,λj y B a d=>by
  rcases yR d with h|⟨rfl,rfl⟩
  .exact H.gs j y B a h
  rw[b]at a;cases a;exact c,H.aC,H.nA⟩
theorem yQ.OA{x:ce}(b:S.Eg.aC[Vs.length]?=x)(c:gC v A x (x.map I)):yQ S ls sa ma da xa As (Vs++[.slice A x n]) Ds v:=
 ⟨H.Rw,H.mid,H.UB,H.done,H.gs,λj y B a d=>by
  rcases yR d with h|⟨rfl,rfl⟩
  .grind [aC]
  rw[b]at a;cases a;exact⟨A,n,ii,c⟩,H.nA⟩
theorem yQ.OB{r:Ring}(b:S.au[Ds.length]?=r)(c:HRd S ls Ds r J v):yQ S ls sa ma da xa As Vs (Ds++[J]) v:=
 ⟨H.Rw,H.mid,H.UB,H.done,H.gs,H.aC,λj y B a d=>by
  rcases yR d with h|⟨rfl,rfl⟩
  .grind [nA]
  rw[b]at a;cases a;exact c⟩
end
end
structure yS(S:Wd)(ls:ap)(w w':World)(sa ma da xa ga ca ha:am)(As:List bi)(Vs:bi)(Ds:List bi):Prop where
 la:As=S.gs.length
 a25:∀A∈As,A.length=25
 lv:Vs=S.gs.length
 ld:Ds=S.au.length
 d6:∀D∈Ds,D.length=6
 below:Below w w w'
 gs:∀W,lO w w' W->gC W ga S.gs As.flatten
 aC:∀W,lO w w' W->gC W ca S.gs Vs
 nA:∀W,lO w w' W->gC W ha S.au Ds.flatten
 rd:∀W,lO w w' W->yQ S ls sa ma da xa As Vs Ds W
structure tc(S:Wd)(ls:ap):Prop where
 Rw:S.ah.length<=64
 mid:S.Eg.aK.length<=1000
 UB:S.UB.length<=1000
 done:S.done.length<=900000
 gs:S.gs.length<=100
 gor:∀(j:Nat) x,S.gs[j]?=some x->CY x.ops/\x.aH.length<=1000/\x.aq.length<=1000/\x.bA.length<=1000/\x.OK.length<=1000
 aC:S.Eg.aC=S.gs.length
 cache:∀(j:Nat) x,S.Eg.aC[j]?=some x->x.length<=1000
 au:S.au.length<=8
 eU:∀r∈S.au,r.Ok
 aO:S.aO=S.au.length
 q:V.xQ S.ef ls
 bM:ls.length=16
 line:∀l∈ls,l.length<=1000
 aS:S.ef.aS.length<=1000
theorem Tryz.Kf:(prog.info? 59).map (λi=>(i.zero,i.size,i.bytes))=some (some (.agg #[I 0,(),B false,I 0,(),()]),6,96):=kX
theorem UM:prog.underlying 36=some (.slice 59):=kX
section
variable{w0:World}
theorem bz.Zs(R:bz z G w2 D t)(r:t.gs[n]?=e)(x:CY e.ops):∃y C,D.cU (.ops n) e.ops=.slice y e.ops C/\kC w2 y e.ops:=by
 by_cases l:e.ops=[]
 .cases d:D.aV (.ops n) with
  |none=>exact⟨none,0,by rw[Mem.j6 d,l];rfl,by rw[l];simp,λj o i=>by rw[l]at i;cases i⟩
  |some b=>exact⟨_,_,Mem.de d,by rw[l];simp,λj o i=>by rw[l]at i;cases i⟩
 obtain⟨o0,s⟩:∃o,e.ops[0]?=some o:=⟨_,fv (pd l)⟩;obtain⟨E,H,I,_⟩:=R.ops r s;refine⟨_,_,I,by have:=x.1;omega,λj o i=>?_⟩;obtain⟨J,A,_,p⟩:=R.ops r i;rw[H]at A;cases A;obtain⟨a,K,u,L⟩:=R.cases r i;obtain⟨M,N,O,T,i5,U⟩:=x.2 o (lf i);refine⟨E,0,a,K,ii,?_⟩;simp only[wl];refine⟨p 0 _ ii,p 1 _ ii,p 2 _ ii,p 3 _ ii,p 4 _ (by rw[<-u];rfl),p 5 _ ii,⟨oX,λk c q=>?_⟩,M,N,O,T⟩;obtain⟨W,rfl,_,X⟩:=L (λd=>by rw[d]at q;cases q);have c2:=λg Y v Z=>X (k*3+g) v (by have:=fq (f:=fT) (k:=3) (λ_ _=>rfl) o.cases 0 k g c q Y;rw[this];exact Z)
 have B:=U c (lf q);simp only[wl]at c2;refine⟨W,0,ii,?_⟩;simp only[wl];exact⟨c2 0 oX _ ii,c2 1 oX _ ii,c2 2 oX _ ii,B.1,B.2⟩
end
abbrev TT:Nat->Prop:=λ_=>True
theorem bi7{α:Type}{E:nR α}{c:List α}{a:List bi}(d:c.length<=1000000)(h:gC v A c a.flatten)(f:OC E TT v c a):ix E TT v A c:=
 ⟨d,a,f,λg=>by obtain⟨b,off,e,i⟩:=h (pd g);exact⟨b,off,e,trivial,i⟩⟩
theorem bd2{α:Type}{f:Nat->α->bi}(a:∀i x,f i x=f 0 x):∀(l:List α) i,bT f i l=(l.map (f 0)).flatten
 | [],_=>rfl
 |x::l,i=>by rw[ae8,as5,<-bd2 a l (i+1),<-a i];rfl
theorem VV{α:Type}(f:α->Value):∀l:List α,l.map f=(l.map λx=>[f x]).flatten
 | []=>rfl
 |x::l=>by rw[ae8,ae8,as5,<-VV f l];rfl
theorem Own.nil{α:Type}{E:nR α}{e:TypeId}{P:Nat->Prop}(l:kL f w'):Own E e P v f w' () []:=⟨l,by simp,[],⟨ii,λk x a h=>by simp at h⟩,ai9 _ _ _ _⟩
theorem Own.toF{α:Type}{E:nR α}{e:TypeId}{P c:Nat->Prop}{w:World}{v:Value}{g:List α}(h:Own E e P f w2 w v g)(j:∀k,k<f.heap.size->P k->c k)(l:aV2 c f w'):Own E e c w' w2 w v g:=by
 obtain⟨a,b,d,i,r⟩:=h;exact⟨a,b,d,⟨i.1,λk x m n o=>E.later l (E.mono j (i.2 k x m n o))⟩,r⟩
def sdE:nR fE:=⟨7,λ_ _ s a=>a=mg 0 s,by rintro _ _ _ _ rfl;rfl,by rintro _ _ _ _ rfl;simp[mg,Value.oneCell'],λ_ h=>h,λ_ h=>h⟩
def ac0:nR Int:=⟨1,λ_ _ z a=>a=[U z],by rintro _ _ _ _ rfl;rfl,by rintro _ _ _ _ rfl;simp[Value.oneCell'],λ_ h=>h,λ_ h=>h⟩
def caE:nR ce:=⟨1,λ_ _ l b=>∃a c,b=[.slice a l c],by rintro _ _ _ _ ⟨_,_,rfl⟩;rfl,by rintro _ _ _ _ ⟨_,_,rfl⟩;simp[Value.oneCell'],λ_ h=>h,λ_ h=>h⟩
def gV(u:bI×Int×Bool)(o a b c d:Value):dl:=(yP u.1 u.2.1 u.2.2 o a b c d).toArray
def gF:nR (bI×Int×Bool):=⟨25,λP w u n=>(∃a b c d1 d d2 f d3 g d4,n=yP u.1 u.2.1 u.2.2 (.slice a u.1.ops.length b) (.slice c u.1.aH.length d1) (.slice d u.1.aq.length d2) (.slice f u.1.bA.length d3) (.slice g u.1.OK.length d4)/\∀W,aV2 P w W->kC W a u.1.ops),
 by rintro _ _ _ _ ⟨_,_,_,_,_,_,_,_,_,_,rfl,_⟩;rfl,by rintro _ _ _ _ ⟨_,_,_,_,_,_,_,_,_,_,rfl,_⟩;simp[yP,ru,Value.oneCell'],
 λ{P w W x n} l ⟨a,b,c,d1,d,d2,f,d3,g,d4,e,h⟩=>⟨a,b,c,d1,d,d2,f,d3,g,d4,e,λo i=>h o ⟨jm l.1 i.1,λk j m=>(i.2 k (uB j l.1) m).trans (l.2 k j m)⟩⟩,
 λ{P q w x n} p ⟨a,b,c,d1,d,d2,f,d3,g,d4,e,h⟩=>⟨a,b,c,d1,d,d2,f,d3,g,d4,e,λo i=>h o ⟨i.1,λk j m=>i.2 k j (p k j m)⟩⟩⟩
theorem ac1:XS 28 3 1:=⟨by kernel_rfl,by kernel_rfl⟩
section
variable{F:Fx}
theorem bz.rdE{α:Type}{E:nR α}(R:bz z F v D t){r:bH}{xs:List α}{b:List bi}(d:aj D t r=b.flatten)(e:OC E TT v xs b)(k:0<E.n)(i:xs.length<=1000000):∃a c,D.cU r xs=.slice a xs c/\ix E TT v a xs:=by
 obtain⟨a,c,j,g⟩:=R.Ib (r:=r) (n:=xs.length) (λh=>by
  have:xs.length*E.n=0:=by rw[<-e.len,<-d,h];rfl
  rcases Nat.mul_eq_zero.1 this with h|h
  .exact h
  omega)
 rw[d]at g;exact⟨a,c,j,bi7 i g e⟩
theorem PY{α:Type}{E:nR α}{P:Nat->Prop}{v:World}{a:α->bi}(l:List α)(h:∀x,E.F P v x (a x)):OC E P v l (l.map a):=⟨by simp,λk x d c b=>by rw[na,c]at b;cases b;exact h x⟩
theorem bz.rdI(R:bz z F v D t){r:bH}{xs:ce}(b:aj D t r=xs.map I)(d:xs.length<=1000):∃a c,D.cU r xs=.slice a xs c/\ix X8 TT v a xs:=
 R.rdE (b.trans (VV I xs)) (PY xs λ_=>rfl) dX oX
end
section
variable(u:bI×Int×Bool)
include u
theorem Rj(o a b c d v:Value):(gV u o a b c d).setIfInBounds 0 v=gV u v a b c d/\(gV u o a b c d).setIfInBounds 20 v=gV u o v b c d/\(gV u o a b c d).setIfInBounds 21 v=gV u o a v c d/\(gV u o a b c d).setIfInBounds 22 v=gV u o a b v d/\(gV u o a b c d).setIfInBounds 23 v=gV u o a b c v:=by
 simp[gV,yP,ru]
theorem tZ(o a b c d:Value):(gV u o a b c d)[0]?=o/\(gV u o a b c d)[20]?=a/\(gV u o a b c d)[21]?=b/\(gV u o a b c d)[22]?=c/\(gV u o a b c d)[23]?=d:=by
 simp[gV,yP,ru]
theorem VY(F r1 r2 r3 r4:am)(t c1 c2 c3 c4:Nat)(hI:CY u.1.ops)(hl:u.1.aH.length<=1000/\u.1.aq.length<=1000/\u.1.bA.length<=1000/\u.1.OK.length<=1000)(w:World)(ho:kC w F u.1.ops)(s1:ix X8 TT w r1 u.1.aH)(s2:ix X8 TT w r2 u.1.aq)(s3:ix X8 TT w r3 u.1.bA)(s4:ix X8 TT w r4 u.1.OK):gt 49 #[.agg (gV u (F,u.1.ops.length,t) (r1,u.1.aH.length,c1) (r2,u.1.aq.length,c2) (r3,u.1.bA.length,c3) (r4,u.1.OK.length,c4))] w λe X=>∃F t r1 c1 r2 c2 r3 c3 r4 c4,e=Value.agg (gV u (.slice F u.1.ops.length t) (.slice r1 u.1.aH.length c1) (.slice r2 u.1.aq.length c2) (.slice r3 u.1.bA.length c3) (.slice r4 u.1.OK.length c4))/\(∀W,lO w X W->kC W F u.1.ops)/\kL w X:=by
 obtain⟨n,G⟩:=dC (u.1.ops.length);obtain⟨Y,xS⟩:∃n,n=u.1.aH.length:=⟨_,ii⟩;obtain⟨n2,RH⟩:∃n,n=u.1.aq.length:=⟨_,ii⟩;obtain⟨n3,Ym⟩:∃n,n=u.1.bA.length:=⟨_,ii⟩;obtain⟨n4,a0⟩:∃n,n=u.1.OK.length:=⟨_,ii⟩;have Zc:n<=100:=by rw[G];exact hI.1
 have HL:Hid (∀q t W w1,q=W.heap.size->kL w w1->W=w1->gt 83 #[.slice (some ⟨q,0,none⟩) 1 1] (W.alloc (.cells #[.slice F n t] 50)) λe X=>∃g cp J L,e=Value.slice (some ⟨g,0,none⟩) 1 cp/\X.cell? ⟨g,0,none⟩=some (.slice J n L)/\(∀S,lO (W.heap.size+1) X S->kC S J u.1.ops)/\kL (W.alloc (.cells #[.slice F n t] 50)) X):=λq t W w1 hq hw hW=>by
  subst hq hW
  have jF:aH1 (W.alloc (.cells #[.slice F n t] 50)) (some ⟨W.heap.size,0,none⟩) [u.1.ops]:=by
   refine⟨sX,λi a4 hi=>?_⟩
   cases i with
   |zero=>
    simp at hi;subst hi;exact⟨W.heap.size,0,F,t,ii,by rw[cr (dP),G];rfl,ho.below (ah9 hw _) cG⟩
   |succ i=>simp at hi
  refine(tQ [u.1.ops] 1 rfl (some ⟨W.heap.size,0,none⟩) 1 _ jF (BR hI)).mono ?_;rintro e X ⟨g,cp,aV,cap,c,rfl,hC,h1,h2⟩
  have mj:nG (aV (some (.ops 0))) n (cap (some (.ops 0)))=.slice (UH (aV (some (.ops 0)))) n (if aV (some (.ops 0))=none then 0 else cap (some (.ops 0))):=by
   cases hb:aV (some (.ops 0)) with
   |none=>
    have:=hC.own.none_ _ hb;rw[hC.rows 0 oX]at this;have:u.1.ops=[]:=nu (f:=J6 aV cap 0) (k:=6) (λ_ _=>rfl) dX this;rw[G,this];rfl
   |some b=>simp[nG,UH]
  refine⟨g,cp,UH (aV (some (.ops 0))),(if aV (some (.ops 0))=none then 0 else cap (some (.ops 0))),ii,?_,λS y=>hC.rd (i:=0) oX (by show u.1.ops.length<=_;have:=hI.1;omega) (λo ho=>by obtain⟨M,N,O,R,b5,b6⟩:=hI.2 o ho;exact⟨M,N,O,R,oX,b6⟩) λb h1 h2=>y b cm9 h2,hC.own.below⟩;rw[<-mj];refine hC.own.cell (k:=none) h1 ?_;rw[hC.out,G];rfl
 have HS:=ag (dO s1 (dO s2 (dO s3 s4)));have HN:=ag (dO G (dO xS (dO RH (dO Ym a0))));have HI:=ag hl
 have Np:Hid (∀(o:Oper) (K:Act->World->Prop) (Q:Exit->Act->World->Prop) (ac:Act) (W:World) (x:Operand) (r:am) (n c:Nat) (xs:ce),o.op=.call {callee:=.builtin .append,args:=#[.const (),x],argTypes:=#[28,28]}->ac.eval x=.slice r n c->n=xs.length->xs.length<=1000->ix X8 TT w r xs->kL w W->(∀b d S,kL W S->K (ac.put o.dst (.slice b n d)) S)->Oper.wp prog o ac W K Q):=λo K Q ac W x r n c xs ho hx G hl hr hw y=>by
  refine aX5 (E:=X8) (P:=TT) (wF:=w) (w0:=W) (w1:=w) (xs:=[]) (ys:=xs) (.const ()) x 28 3 ho ac1 dX ii (Own.nil (kb _)) hx G hr hw.ER ci8 λv' S H _=>?_
  obtain⟨b,d,rfl⟩:=H.shape;rw[al0,<-G];exact y b d S H.1
 rw[<-G,<-xS,<-RH,<-Ym,<-a0];clear s1 s2 s3 s4 hl hI ho G xS RH Ym a0;go_enter func49,ntmps49;go_upto_region 1 with fail
 obtain⟨Z,hZ⟩:∃Z:dl,Z=#[Value.slice none 0 0,I 0,I 0,I 0,B false,I 0,B false,I 0,I 0,I 0,I 0,I 0,I 0,I 0,I 0,I 0,I 0,I 0,B false,I 0,Value.slice none 0 0,Value.slice none 0 0,Value.slice none 0 0,Value.slice none 0 0,I 0]:=⟨_,ii⟩;rw[<-hZ];have UJ:Hid (Z.size=25):=by rw[hZ];rfl
 generalize hW:World.alloc (World.alloc w _) _=T;obtain⟨bx,Uh⟩:∃b,b=w.heap.size:=⟨_,ii⟩;obtain⟨rs,vY⟩:∃b,b=w.heap.size+1:=⟨_,ii⟩;rw[<-vY,<-Uh];have a:CG w T bx rs (gV u (.slice F n t) (r1,Y,c1) (r2,n2,c2) (r3,n3,c3) (r4,n4,c4)) Z:=by rw[<-hW,Uh,vY];exact⟨(by1 (kb _) _ _),oX,aX4,aW4⟩
 have a1:=ag a;have x0:=a.cell (tZ ..).1;have L0:=a.below;have HBR:Hid (bx<T.heap.size/\rs<T):=⟨(dh a.box).1,(dh a.res).1⟩;clear hW hZ Uh vY a;go_upto_region 2 with(go_at_call 83;refine(HL _ t _ _ ii L0 ii).mono ?_;rintro e W2 ⟨g,cp,J,L,rfl,y0,jF,l2⟩;have m:=(a1.out.alloc _).call l2;have a2:=m.frozen 0;have a3:=m.cell (tZ ..).1;have Sz:=ag m;have CZ:=ag (dO jF l2);clear m jF l2)
 generalize hP:World.setCell W2 _ _=P0;have a:=Sz.out.set 0 (.slice J n L);rw[(Rj ..).1,hP]at a;have p:=ag a;have e1:=a.cell (tZ ..).2.1;have s:=a.below;have HQ:Hid (iR T W2 P0):=by rw[<-hP];exact iR.set HBR.out.1
 clear a hP x0 a3 a2 y0 Sz;go_upto_region 3 with(refine ae2 ii λK y=>Np _ _ _ _ _ (.tmp 11) _ _ _ _ ii ii HN.out.2.1 HI.out.1 HS.out.1 s λM d1 W l=>y _ _ ?_;have m:=p.out.call l;have g1:=m.frozen 20;have y1:=m.cell (tZ ..).2.1;obtain⟨z,HL⟩:=dA m l;clear m l)
 generalize hP:World.setCell W _ _=P;have a:=z.out.set 20 (.slice M Y d1);rw[(Rj ..).2.1,hP]at a;have U:=a.cell (tZ ..).2.2.1;have A:=a.below;have C:Hid (iR T W2 P):=cl6
 have D:=ag a;clear a hP g1 y1 z HL p HQ s e1;have p:=D;have HQ:=C;have s:=A;clear D C A;have e1:=U;clear U;obtain⟨P1,rfl⟩:∃W,W=P:=⟨_,ii⟩;go_upto_region 4 with(refine ae2 ii λK y=>Np _ _ _ _ _ (.tmp 15) _ _ _ _ ii ii HN.out.2.2.1 HI.out.2.1 HS.out.2.1 s λN d2 W l=>y _ _ ?_;have m:=p.out.call l;have g1:=m.frozen 21;have y1:=m.cell (tZ ..).2.2.1;obtain⟨z,HL⟩:=dA m l;clear m l)
 generalize hP:World.setCell W _ _=P;have a:=z.out.set 21 (.slice N n2 d2);rw[(Rj ..).2.2.1,hP]at a;have U:=a.cell (tZ ..).2.2.2.1;have A:=a.below;have C:Hid (iR T W2 P):=cl6
 have D:=ag a;clear a hP g1 y1 z HL p HQ s e1;have p:=D;have HQ:=C;have s:=A;clear D C A;have e1:=U;clear U;obtain⟨P2,rfl⟩:∃W,W=P:=⟨_,ii⟩;go_upto_region 5 with(refine ae2 ii λK y=>Np _ _ _ _ _ (.tmp 19) _ _ _ _ ii ii HN.out.2.2.2.1 HI.out.2.2.1 HS.out.2.2.1 s λO d3 W l=>y _ _ ?_;have m:=p.out.call l;have g1:=m.frozen 22;have y1:=m.cell (tZ ..).2.2.2.1;obtain⟨z,HL⟩:=dA m l;clear m l)
 generalize hP:World.setCell W _ _=P;have a:=z.out.set 22 (.slice O n3 d3);rw[(Rj ..).2.2.2.1,hP]at a;have U:=a.cell (tZ ..).2.2.2.2;have A:=a.below;have C:Hid (iR T W2 P):=cl6
 have D:=ag a;clear a hP g1 y1 z HL p HQ s e1;have p:=D;have HQ:=C;have s:=A;clear D C A;have e1:=U;clear U;obtain⟨P3,rfl⟩:∃W,W=P:=⟨_,ii⟩;go_upto_region 6 with(refine ae2 ii λK y=>Np _ _ _ _ _ (.tmp 23) _ _ _ _ ii ii HN.out.2.2.2.2 HI.out.2.2.2 HS.out.2.2.2 s λR d4 W l=>y _ _ ?_;have m:=p.out.call l;have g1:=m.frozen 23;have y1:=m.cell (tZ ..).2.2.2.2;obtain⟨z,HL⟩:=dA m l;clear m l)
 generalize hP:World.setCell W _ _=P;have a:=z.out.set 23 (.slice R n4 d4);rw[(Rj ..).2.2.2.2,hP]at a;have A:=a.below;have C:Hid (iR T W2 P):=cl6
 have D:=ag a;clear a hP g1 y1 z HL p HQ s e1;have p:=D;have HQ:=C;have s:=A;clear D C A;obtain⟨P4,rfl⟩:∃W,W=P:=⟨_,ii⟩;refine as8 ?_;refine wpList_load_mid ii 100 (.tmp 1) ii bx 0 rfl (gV u (.slice J n L) (.slice M Y d1) (.slice N n2 d2) (.slice O n3 d3) (.slice R n4 d4)) (λj v hv=>by rw[wl];exact p.out.cell hv) cQ.1 cQ.2 ?_;refine JS ii 100 (.tmp 2) (.tmp 26) ii rs 0 (gV u (.slice J n L) (.slice M Y d1) (.slice N n2 d2) (.slice O n3 d3) (.slice R n4 d4)) ii ii cQ.2 (λj hj=>by rw[cr p.out.res,wl,xL (by rw[UJ.out];exact hj)];rfl) (λj hj=>iM _ _ _ p.out.res) cv7 ?_;go_wp2;refine bj2 ii ii (cs:=(gV u (.slice J n L) (.slice M Y d1) (.slice N n2 d2) (.slice O n3 d3) (.slice R n4 d4))) (dI p.out.res (by rw[UJ.out];rfl)) cQ ?_;have hw:kL w (P4.setCells rs 0 (gV u (.slice J n L) (.slice M Y d1) (.slice N n2 d2) (.slice O n3 d3) (.slice R n4 d4)).toList):=Below.setCells p.out.le.2.1 _ _ _ s;refine⟨J,L,M,d1,N,d2,O,d3,R,d4,ii,λW hA=>CZ.out.1 W λb q1 q2=>?_,hw⟩;have k9:=HQ.out.trans (iR.Za HBR.out.2 (gV u (.slice J n L) (.slice M Y d1) (.slice N n2 d2) (.slice O n3 d3) (.slice R n4 d4)).toList 0 P4);have:=s.size;rw[hA b (by have:=L0.size;omega) (uB q2 k9.1)];exact k9.2 b oX q2
end
open Go.Maps Go.ChangeMaps
theorem Rd.grown{k:IntKind}{a:ce}(h:Rd k v A a)(d:v.grownBy f n)(g:∀(b:Nat) (off:Nat),A=(b,off)->b≠n):Rd k f A a:=by
 refine⟨h.1,λc=>?_⟩;obtain⟨b,off,e,i⟩:=h.2 c;grind [World.grownBy.cell]
def jh(w:World)(b n:Nat)(f:Int->Int):Prop:=
 ∃D:DataW Unit,w.ownsMap prog 3 (plainElem prog 3) b n D/\∀g:Int,(Lit.int .i64 g).wf->D.atKey (.int .i64 g) (.lit (.int .i64 0))=.lit (.int .i64 (f g))
theorem ZX:Keyed prog 3:=int_keyed underlying3
theorem ZY(w:World):(zeroValue 3).run prog w=.ok (.int .i64 0) w:=kX
theorem jh.cZ(w:World):jh (w.alloc (.map #[] 0)) w 0 (λ_=>0):=⟨_,World.ownsMap_made w _ _ _,λ_ _=>rfl⟩
theorem jh.lt{w:World}{b n:Nat}{f:Int->Int}(h:jh w b n f):b<w:=by
 obtain⟨D,h,_⟩:=h;exact h.lt
theorem jh.kept{w a:World}{b n:Nat}{f:Int->Int}{row:Option Nat}(h:jh w b n f)(c:w.grownBy a row)(d:some b≠row):jh a b n f:=by
 obtain⟨D,h,e⟩:=h;exact⟨D,h.kept c d,e⟩
theorem jh.below{b:Nat}{a:Int->Int}(h:jh v b n a)(c:Below v v f):jh f b n a:=
 h.kept (row:=none) ⟨c.os,c.tape,c.output,c.size,λk d _=>c.block k d⟩ sX
theorem jh.mono{w:World}{b n a:Nat}{f:Int->Int}(h:jh w b n f)(c:n<=a):jh w b a f:=by
 obtain⟨D,h,d⟩:=h;exact⟨D,h.mono c,d⟩
theorem jh.congr{b:Nat}{f a:Int->Int}(h:jh v b n f)(d:∀g,(Lit.int .i64 g).wf->f g=a g):jh v b n a:=by
 obtain⟨D,h,e⟩:=h;exact⟨D,h,λg c=>by rw[e g c,d g c]⟩
theorem jh.lookup{w:World}{b n:Nat}{f:Int->Int}(h:jh w b n f){g:Int}(d:(Lit.int .i64 g).wf):(Instr.lookup 120 (.map b) (.int .i64 g) false).run prog w=.ok (.int .i64 (f g)) w:=by
 obtain⟨D,h,e⟩:=h;obtain⟨c,i,a,_⟩:=h.lookup_int ZX underlying120 underlying3 (ZY _) (keyOf_int_mk underlying3 d);rw[e g d]at a;simp at a;rw[i,a]
theorem jh.update{w:World}{b n:Nat}{f:Int->Int}(h:jh w b n f)(i:n<maxLen){g v:Int}(j:(Lit.int .i64 g).wf)(l:(Lit.int .i64 v).wf):∃a,(Instr.mapUpdate 120 (.map b) (.int .i64 g) (.int .i64 v)).run prog w=.ok () a/\jh a b (n+1) (λx=>if x=g then v else f x)/\w.grownBy a b:=by
 obtain⟨D,h,m⟩:=h;have o:IsMap D:=by obtain⟨t,c,_,_,_,e⟩:=h;exact⟨_,e⟩
 obtain⟨a,p,q,r⟩:=h.update ZX underlying120 i (keyOf_int_mk underlying3 j) (plainElem_int underlying3 l);refine⟨a,p,⟨_,q,λx s=>?_⟩,r⟩;by_cases d:x=g
 .subst d;rw[atKey_put_same o (k:=.int .i64 x) (show WideAt.IsKeyLit (.int .i64 x)from trivial)];simp
 rw[atKey_put_other (by simpa using d),m x s];simp[d]
theorem jh.clear{b:Nat}{f:Int->Int}(h:jh v b n f)(g:TypeId):∃d,(Builtin.clear_ #[120] g #[.map b]).run prog v=.ok (.tuple #[]) d/\jh d b 0 (λ_=>0)/\v.grownBy d b:=by
 obtain⟨D,⟨k,a,c,_⟩,l⟩:=h
 refine⟨setBlock v b (.map #[] a),?_,⟨.map [],⟨#[],a,heap_setBlock_same c _,⟨sX,MapKept.stamped_empty a,sX⟩,rx _,ii⟩,λ_ _=>rfl⟩,
  ⟨ii,ii,ii,by simp[setBlock],λi _ j=>heap_setBlock_other c _ (λe=>j cx5)⟩⟩
 simp[Builtin.clear_,aB6 underlying120,MapKept.run_getObj_map c,MapKept.run_setObj_map _ c,Result.andThen,setBlock]
theorem uZ{d:Array Oper}{rest:List Oper}{o:Oper}{a:Act}{Q:Exit->Act->World->Prop}(j:o.guard=none)(m x v:Operand)(k:o.op=Op.mapUpdate 120 m x v)(b n:Nat)(c:Int->Int)(g z:Int)(l:a.eval m=.map b)(e:jh f b n c)(p:n<maxLen)(q:a.eval x=.int .i64 g)(r:a.eval v=.int .i64 z)(s:(Lit.int .i64 g).wf)(t:(Lit.int .i64 z).wf)(h:∀i,jh i b (n+1) (λx=>if x=g then z else c x)->f.grownBy i b->wpList prog d Q rest (a.put o.dst undef) i):wpList prog d Q (o::rest) a f:=by
 refine ae2 j λK u=>?_
 obtain⟨i,w,y,A⟩:=e.update p s t;unfold Oper.wp;simp[execOp,k,l,q,r,w,Result.andThen];exact u _ _ (h _ y A)
theorem lX{P:Program}{c:Array Oper}{rest:List Oper}{o:Oper}{a:Act}{Q:Act->Prop}(nX:o.guard=none)(m x:Operand)(d:o.op=Op.lookup 120 m x false)(b:Nat)(key v:Value)(e:a.eval m=.map b)(g:a.eval x=key)(i:(Instr.lookup 120 (.map b) key false).run P f=.ok v f)(h:wpStill P c f Q rest (a.put o.dst v)):wpStill P c f Q (o::rest) a:=by
 unfold wpStill;rw[aF cn1];unfold Oper.still;simp[execOp,d,e,g,i,Oper.stillUpon,Result.andThen];exact h
def iC(who:Int)(run:ce)(f:Int->Int)(g:Int):Int:=if g∈run/\g≠who then f g+1 else 0
theorem IL(who:Int)(run:ce)(f:Int->Int)(j:Nat)(g:Int)(e:j<run):iC who (run.take (j+1)) f g=if g=run.getD j 0/\g≠who then f g+1 else iC who (run.take j) f g:=by
 have b:g∈run.take (j+1)↔g∈run.take j\/g=run.getD j 0:=by grind [List.take_succ_eq_append_getElem]
 unfold iC;by_cases a:g=run.getD j 0<;>by_cases c:g=who<;>by_cases d:g∈run.take j<;>simp[b,a,c,d];all_goals(first|omega|(subst a;simp_all)|simp_all)
structure SE(s b:Nat)(w w':World):Prop where
 os:w'.os=w.os
 tape:w'.tape=w.tape
 output:w'.output=w.output
 size:w<=w'.heap.size
 block:∀k,k<w.heap.size->k≠s->k≠b->w'.heap[k]?=w.heap[k]?
theorem SE.refl(s b:Nat)(w:World):SE s b w w:=⟨ii,ii,ii,rx _,λ_ _ _ _=>rfl⟩
theorem SE.trans{s b:Nat}{w d e:World}(a:SE s b w d)(c:SE s b d e):SE s b w e:=
 ⟨c.os.trans a.os,c.tape.trans a.tape,c.output.trans a.output,jm a.size c.size,λk f g h=>(c.block k (uB f a.size) g h).trans (a.block k f g h)⟩
theorem SE.FL{s b:Nat}(h:v.grownBy f b):SE s b v f:=⟨h.os,h.tape,h.output,h.size,λk a _ c=>h.block k a (by simpa using c)⟩
theorem SE.rd{s b:Nat}{c:ce}(h:Rd .i64 v A c)(k:SE s b v f)(g:0<c.length->∀(a:Nat) (off:Nat),A=(a,off)->a≠s/\a≠b):Rd .i64 f A c:=by
 refine⟨h.1,λd=>?_⟩;obtain⟨a,off,e,l⟩:=h.2 d;refine⟨a,off,e,λj m=>?_⟩;have i:=l j m;rw[kZ (w:=v) (k.block a (ba0 v _ i) (g d a off e).1 (g d a off e).2)];exact i
structure fH(w:World)(s b1 b2 n1 n2:Nat)(f1 f2:Int->Int):Prop where
 aV:w.heap[s]?=some (.cells #[.map b1,.map b2] 122 (0,0))
 m1:jh w b1 n1 f1
 m2:jh w b2 n2 f2
 Km:b1≠s
 Nu:b2≠s
 ne:b1≠b2
section
variable{s n2:Nat}{f1 f2:Int->Int}(h:fH v s z p X n2 f1 f2)
include h
theorem fH.lt:s<v:=(dh h.aV).1
theorem fH.c0:v.cell? s=some (.map z):=by simp[World.cell?,h.aV]
theorem fH.c1:v.cell? (s,1)=some (.map p):=by simp[World.cell?,h.aV]
end
theorem Ma{s:Nat}{f1 f2:Int->Int}{who:Int}{run:ce}(r:am)(c:Nat)(w:World)(hm:cp=run)(a5:cp<=20)(y:fH w s n z p X f1 f2)(hr:Rd .i64 w r run)(SX:∀a∈run,(Lit.int .i64 a).wf)(hf:∀g,0<=f1 g/\f1 g<=1000000)(N:0<run.length->∀(b:Nat) (off:Nat),r=(b,off)->b≠s/\b≠z):gt 31 #[s,.agg #[.int .i64 who,(r,cp,c)]] w (ee λw'=>fH w' s z n cp p (iC who run f1) f1/\SE s z w w'):=by
 have dD:=y.lt;have O:fH (w.alloc (.cells #[.int .i64 who,(r,cp,c)] 83)) s n z p X f1 f2:=by have hg:=World.grownBy_alloc w (.cells #[.int .i64 who,(r,cp,c)] 83) none;exact⟨(hg.block s dD sX).trans y.aV,y.m1.kept hg sX,y.m2.kept hg sX,y.Km,y.Nu,y.ne⟩
 obtain⟨HM,f,HR,HF,F,SY⟩:=mr hm y hr hf N SX;have l:=ag O;clear hm y hr hf SX O N;go_enter func31,ntmps31;go_wp2;obtain⟨m,K⟩:=dC (w.alloc (.cells #[.int .i64 who,(r,cp,c)] 83));have hp:m.heap[w.heap.size]?=some (.cells #[.int .i64 who,(r,cp,c)] 83 (0,0)):=by rw[K];exact ag7 w _
 have Q:Rd .i64 m r run:=by rw[K];exact HR.out.below ((ae5 w w).alloc cG _) cG
 have ZZ:SE s z w m:=by rw[K];exact⟨ii,ii,ii,sX,λk C _ _=>gf w _ k C⟩
 rw[<-K]at l;rw[<-K];have R:=ag ZZ;have Ot:=ag Q;obtain⟨d,G⟩:=dC (w.heap.size);rw[<-G]at hp;rw[<-G];have S:d≠s:=by have:=f.out.lt;omega
 have a6:d≠n:=by have:=f.out.m1.lt;omega
 have Z1:d≠z:=by have:=f.out.m2.lt;omega
 have HP:=ag hp;clear K f HR ZZ Q hp G;have c0:=l.out.c0;have c1:=l.out.c1;have g0:=iM m s 0 l.out.aV;have g1:=iM m s 1 l.out.aV;go_region;obtain⟨L,D⟩:=dC (((m.setCell s (.map z)).setCell (s,1) (.map n)).drew);have qw:∀k,k≠s->L.heap[k]?=m.heap[k]?:=λk C=>by rw[D];show((m.setCell s (.map z)).setCell (s,1) (.map n)).heap[k]?=_;grind [Go.RowKit.Below.heap_setCell]
 have rI:L.heap[s]?=some (.cells #[.map z,.map n] 122 (0,0)):=by rw[D];have u:=ms m s 0 _ _ (.map z) l.out.aV;have o:=ms _ s 1 _ _ (.map n) u;show((m.setCell s (.map z)).setCell (s,1) (.map n)).heap[s]?=_;simpa using o
 have a3:L=m.heap.size:=by rw[D];simp[World.setCell]
 have EU:m.grownBy L s:=⟨by rw[D];rfl,by rw[D];rfl,by rw[D];rfl,oX,λk _ C=>qw k λe=>C cx5⟩;rw[<-D];have Lf:fH L s z n X p f2 f1:=⟨rI,l.out.m2.kept EU (by simpa using l.out.Nu),l.out.m1.kept EU (by simpa using l.out.Km),l.out.Nu,l.out.Km,dE l.out.ne⟩;have x:=ag Lf;have En:=ag ((qw d S).trans HP);have nU:=ag EU;have d0:=Lf.c0;clear D qw rI a3 EU Lf l HP c0 c1 g0 g1;obtain⟨E,ta,T,A⟩:=x.out.m1.clear 0;have SZ:fH E s z n 0 p (iC who (run.take 0) f1) f1:=by refine⟨(A.block s x.out.lt (by simpa using λe=>x.out.Km e.symm)).trans x.out.aV,T.congr λg _=>by simp[iC],x.out.m2.kept A (by simpa using dE x.out.ne),x.out.Km,x.out.Nu,x.out.ne⟩
 have U2:SE s z w E:=by have u:=R.out;have o:=nU.out;refine⟨A.os.trans (o.os.trans u.os),A.tape.trans (o.tape.trans u.tape),A.output.trans (o.output.trans u.output),jm u.size (jm o.size A.size),λk C e1 e2=>?_⟩;have s1:=u.size;have s2:=o.size;rw[A.block k oX (by simpa using e2),o.block k oX (by simpa using e1),u.block k C e1 e2]
 have U3:E.heap[d]?=some (.cells #[.int .i64 who,(r,cp,c)] 83 (0,0)):=by grind [World.grownBy.block,Hid.out]
 have U:Rd .i64 E r run:=by have W:=nU.out;have o:Rd .i64 L r run:=SE.rd (s:=s) (b:=z) Ot ⟨W.os,W.tape,W.output,W.size,λk C e1 _=>W.block k C (by simpa using e1)⟩ F;exact SE.rd (s:=s) (b:=z) o (SE.FL A) F
 obtain⟨vC,tK,Eo,SB⟩:=ia SZ U2 U3 U;have q0:=al7 E d 0 _ _ _ U3;have q1:=al7 E d 1 _ _ _ U3;simp only[au0,ak5,bm3]at q0 q1;clear SZ U2 U3 U T A x En nU R Ot;go_wp2;go_loopw [5,27] (λ_ i wr=>∃j:Nat,j<=cp/\i=.int .i64 j/\Hid (fH wr s z n j p (iC who (run.take j) f1) f1)/\Hid (SE s z E wr)) (λ_ i _=>cp-(intOf i).toNat)
 case atStart=>exact⟨0,wn _,ii,vC,⟨ii,ii,ii,rx _,λ_ _ _ _=>rfl⟩⟩
 obtain⟨j,hj,rfl,f,H⟩:=hrel;have Y:wr.heap[d]?=some (.cells #[.int .i64 who,(r,cp,c)] 83 (0,0)):=by rw[H.out.block d (dh Eo.out).1 S Z1];exact Eo
 have e0:=al7 wr d 0 _ _ _ Y;simp only[au0,ak5]at e0;clear Y;by_cases dD:j<cp
 .obtain⟨b3,o3,rfl,hz⟩:=(SE.rd SB H F).at j cr2;have Z:run.getD j 0∈run:=by grind [Hid.out]
  have I:=SY.out _ Z;have jf:=λg=>IL who run f1 j g cr2
  obtain⟨a,a0⟩:=dC (run.getD j 0);rw[<-a0]at hz I jf;have a1:=ag I;have pI:=ag jf;clear Z a0 I jf;by_cases cM:a=who
  .have t:Hid (fH wr s z n (j+1) p (iC who (run.take (j+1)) f1) f1):=by
    refine⟨f.out.aV,(f.out.m1.congr λg _=>?_).mono oX,f.out.m2,f.out.Km,f.out.Nu,f.out.ne⟩;rw[pI.out g,aE (by rintro⟨u,o⟩;exact o (u.trans cM))]
   clear f;go_wp2;go_roundw
   case rel=>exact⟨j+1,oX,cj8,t,H⟩
   simp[intOf];omega
  have d0:=f.out.c0;have d1:=f.out.c1;have Aq:=(show jh {wr with drawn:=wr.drawn+1} n p f1 from f.out.m2).lookup a1;have a4:=HF.out a;obtain⟨q,hq⟩:=dC (f1 a);rw[<-hq]at Aq a4;have HQ:=ag hq;clear hq;have BI:IntKind.i64.wrap (q+1)=q+1:=jX oX;go_wp2;have a2:=ag BI;clear BI;go_still_tail 12,kX;refine lX ii (.tmp 43) (.tmp 44) ii n (.int .i64 a) (.int .i64 q) ii ii Aq ?_;still_step;refine aj0 ?_;change wpList _ _ _ _ _ wr.drew;refine uZ ii (.tmp 38) (.tmp 39) (.tmp 46) ii z j (iC who (run.take j) f1) a (IntKind.i64.wrap (q+1)) ii (show jh wr.drew z j _ from f.out.m1) cj7 ii ii a1 (by rw[a2.out];simp[Lit.wf,IntKind.min,IntKind.max,IntKind.signed,IntKind.bits];omega) ?_;intro w5 tn M;have B:wr.grownBy w5 z:=⟨M.os,M.tape,M.output,M.size,M.block⟩;clear M;rw[a2.out]at tn;have t:Hid (fH w5 s z n (j+1) p (iC who (run.take (j+1)) f1) f1):=by refine⟨(B.block s f.out.lt (by simpa using dE f.out.Km)).trans f.out.aV,tn.congr λg _=>?_,f.out.m2.kept (row:=some z) B (by simpa using dE f.out.ne),f.out.Km,f.out.Nu,f.out.ne⟩;rw[pI.out g,HQ.out];grind
  have J:Hid (SE s z E w5):=H.out.trans (SE.FL B);clear f H tn B Aq d0 d1;go_wp2;go_roundw
  case rel=>exact⟨j+1,oX,cj8,t,J⟩
  simp[intOf];omega
 obtain rfl:j=cp:=oX
 have t:Hid (fH wr s z n j p (iC who run f1) f1):=by have:=f.out;rw[yl (by rw[<-HM.out];exact rx _)]at this;exact this
 have J:Hid (SE s z w wr):=tK.out.trans H;clear f H;go_wp2;exact bodyPost_end (v:=.tuple #[]) (ad8 ii _ _ _) ii ⟨ii,t,J⟩
theorem aO0(w:World):gt 71 #[I 9] w (eL (.bool false) λa=>w=a):=by
 go_enter func71,ntmps71;exact bZ9
section
variable(b c:Nat)(w:World)(h:w.cell? b=I 9)
include b c w h
theorem FR:gt 130 #[(b,1,c),.func (.func 71) #[] #[]] w (eL (I (-1)) λa=>w=a):=by
 have d:=ag aO0;go_enter func130,ntmps130;go_wp2;go_loopw [4,5,8] (λr v i wr=>∃k:Nat,i=.int .i64 k/\k<=1/\wr=w) (λr v i _=>1-(intOf i).toNat)
 case atStart=>exact⟨0,ii,oX,ii⟩
 obtain⟨k,rfl,f,rfl⟩:=hrel;by_cases g:k<1
 .obtain rfl:k=0:=by omega
  go_wp2_with (go_at_call 71;refine(d _).mono ?_;rintro e j ⟨rfl,rfl⟩);go_roundw
  case rel=>exact⟨1,ii,oX,trivial⟩
  simp[intOf]
 obtain rfl:k=1:=oX
 exact bZ9
theorem zl:gt 72 #[(b,1,c),.func (.func 71) #[] #[]] w (eL (.bool false) λa=>w=a):=by
 have d:=ag (FR b c w h);clear h;go_enter func72,ntmps72;go_wp2_with (go_at_call 130;refine d.out.mono ?_;rintro e f ⟨rfl,rfl⟩);go_ret;exact⟨ii,ii⟩
theorem FT:gt 38 #[(b,1,c),I 14] w (oV λa=>w=a):=by
 have d:=ag (zl b c w h);clear h;go_enter func38,ntmps38;go_wp2_with (go_at_call 72;refine d.out.mono ?_;rintro e f ⟨rfl,rfl⟩);go_ret;exact⟨ii,ii⟩
end
def WD(o:cu):bi:=[o.ai,o.ch,o.n,o.v,(),o.dG]
def so:go->bi
 | []=>[]
 |o::l=>WD o++so l
structure Z8(w wr:World)(v1 v2:Value)(l1 l2:go)(aV:Bool->Option Nat)(cap:Bool->Nat)(ct:Bool->bi):Prop where
 own:cN w w wr aV (λ_=>some (49,6)) cap ct
 h1:v1=nG (aV true) l1 (cap true)
 c1:ct true=so l1
 h2:v2=nG (aV false) l2 (cap false)
 c2:ct false=so l2
def ir(w wr:World)(a b:Value)(c d:go):Prop:=∃e cap f,Z8 w wr a b c d e cap f
theorem zm:∀l:go,(so l).length=l*6
 | []=>rfl
 |o::l=>by unfold so;rw[aU7,zm l,sV,show(WD o).length=6 from rfl];omega
theorem bd0:∀(l:go) (o:cu),so (l++[o])=so l++WD o
 | [],o=>by simp[so]
 |a::l,o=>by rw[sY];unfold so;rw[bd0 l o,al2]
section
variable{w wr:World}{v1 v2:Value}{l1 l2:go}
theorem ir.start:ir w w () () [] []:=⟨_,_,_,cN.nil _ _ cG _,ii,ii,ii,ii⟩
theorem ir.alloc(H:ir w wr v1 v2 l1 l2)(o:Obj):ir w (wr.alloc o) v1 v2 l1 l2:=by
 obtain⟨a,cap,b,H⟩:=H;exact⟨a,cap,b,{H with own:=H.own.alloc o}⟩
section
variable(H:ir w wr v1 v2 l1 l2)
include H
theorem ir.Z9:wr.ownsRow w 49 6 v1 l1 (so l1):=by
 obtain⟨a,cap,b,H⟩:=H;rw[H.h1,<-H.c1];exact H.own.owns (k:=true) (p:=(49,6)) ii dX (by rw[H.c1];exact zm l1)
theorem ir.aa0:wr.ownsRow w 49 6 v2 l2 (so l2):=by
 obtain⟨a,cap,b,H⟩:=H;rw[H.h2,<-H.c2];exact H.own.owns (k:=false) (p:=(49,6)) ii dX (by rw[H.c2];exact zm l2)
theorem ir.lo:w<=wr.heap.size/\Below w w wr:=by
 obtain⟨a,cap,b,H⟩:=H;exact⟨H.own.tL,H.own.below⟩
theorem ir.U6{o:cu}(d:X=l1+1)(b:wr.grownBy w' v1.ownBlock)(a:w'.ownsRow w 49 6 (n,X,z) X (so l1++WD o))(c:v1.ownBlock=n\/wr<=n):ir w w' (n,X,z) v2 (l1++[o]) l2:=by
 obtain⟨e,cap,f,H⟩:=H;rw[H.h1,mJ]at b c;have O:=H.own.row (r:=true) (p:=(49,6)) (λq h=>cs2) b a c;refine⟨_,_,_,O,?_,?_,?_,?_⟩
 .rw[ub,ub,d,aU7];rfl
 .rw[ub,bd0]
 .rw[aD dX,aD dX];exact H.h2
 rw[aD dX];exact H.c2
theorem ir.U7{o:cu}(d:X=l2+1)(b:wr.grownBy w' v2.ownBlock)(a:w'.ownsRow w 49 6 (n,X,z) X (so l2++WD o))(c:v2.ownBlock=n\/wr<=n):ir w w' v1 (n,X,z) l1 (l2++[o]):=by
 obtain⟨e,cap,f,H⟩:=H;rw[H.h2,mJ]at b c;have O:=H.own.row (r:=false) (p:=(49,6)) (λq h=>cs2) b a c;refine⟨_,_,_,O,?_,?_,?_,?_⟩
 .rw[aD dX,aD dX];exact H.h1
 .rw[aD dX];exact H.c1
 .rw[ub,ub,d,aU7];rfl
 rw[ub,bd0]
end
theorem FU:∀(l:go) (j:Nat) (o:cu),l[j]?=o->∀t v,(WD o)[t]?=some v->(so l)[j*6+t]?=some v
 | [],j,o,h,_,_,_=>ck3
 |a::l,0,o,h,t,v,b=>by simp at h;subst h;unfold so;grind
 |a::l,j+1,o,h,t,v,b=>by unfold so;rw[Ew (by show 6<=_;omega),show(WD a).length=6 from ii,show(j+1)*6+t-6=j*6+t by omega];exact FU l j o ck0 t v b
theorem PC{b:Nat}{l:go}(z:l.length<=100)(i:∀o∈l,o.cases=[])(m:∀o∈l,pW o.ai/\pW o.ch/\pW o.n/\pW o.v)(p:∀(j:Nat) u,(so l)[j]?=some u->w.cell? (b,j)=u):kC w b l:=by
 refine⟨oX,λj o e=>⟨b,0,none,0,ii,?_⟩⟩;have f:=lf e;obtain⟨q,r,s,x⟩:=m o f;have d:=i o f;have a:=λt v y=>p _ _ (FU l j o e t v y)
 simp only[wl];refine⟨a 0 _ ii,a 1 _ ii,a 2 _ ii,a 3 _ ii,by rw[d];exact a 4 _ ii,a 5 _ ii,⟨by rw[d];decide,λk c g=>by rw[d]at g;cases g⟩,q,r,s,x⟩
end
def FV:go:=[{ai:=2,ch:=1,v:=9},{ai:=6,ch:=1}]
def FW:go:=[{ai:=3,ch:=1},{ai:=3,ch:=1}]
theorem zo(b:Nat)(w:World)(h:w.cell? b=I 9):gt 19 #[(b,1,1)] w λe S=>∃a c,e=Value.slice a 2 c/\aH1 S a [FV,FW]/\Below w w S:=by
 obtain⟨i0,J,K,L,M⟩:=AC Oe;have X:=ag (FT b 1 w h);have Y:=ag h;clear h;go_enter func19,ntmps19;go_wp2_with (go_at_call 38;refine X.out.mono ?_;rintro e w2 ⟨rfl,rfl⟩);have T:Hid (ir w w (.slice none 0 0) (.slice none 0 0) (FV.take 0) (FW.take 0)):=ir.start;go_loopw [3,4,12] (λs r i wr=>∃(k:Nat) (n:am) (p:Nat) (q:am) (t:Nat),s=.slice n k p/\r=.slice q k t/\i=.int .i64 k/\k<=1/\Hid (ir w wr (.slice n k p) (.slice q k t) (FV.take k) (FW.take k))) (λs r i _=>1-(intOf i).toNat)
 case atStart=>exact⟨0,none,0,none,0,ii,ii,ii,oX,T⟩
 clear T;obtain⟨k,n,p,q,t,rfl,rfl,rfl,hk,l⟩:=hrel;have U:=l.out.lo.1;by_cases dD:k<1
 .obtain rfl:k=0:=by omega
  have d:wr.cell? ⟨b,0,none⟩=some (I 9):=cw l.out.lo.2 cG _ _ Y;have x:=ag l.out.Z9;go_upto_region 7 with fail
  go_wp2_with (first
   |(at_builtin;go_loud (refine gY (us:=#[I 2,I 1,I 0,I 9,.slice none 0 0,B false]) (w2:=wr) ii (.tmp 16) (.tmp 19) 50 rfl underlying50 J K L M ii dX dX ii ii cj0 (.slice n 0 p) 0 rfl x wr.heap.size ii ii oX U ?_);intro g y A hown jE lN;have Eo:=ag ((l.out.alloc (.cells #[I 2,I 1,I 0,I 9,.slice none 0 0,B false] 49)).U6 (o:={ai:=2,ch:=1,v:=9}) ii jE hown lN);have C:=ag Eo.out.aa0;have D:=Eo.out.lo.1;clear hown jE lN x)
   |(at_builtin;go_loud (refine gY (us:=#[I 3,I 1,I 0,I 0,.slice none 0 0,B false]) (w2:=A) ii (.tmp 21) (.tmp 23) 50 rfl underlying50 J K L M ii dX dX ii ii cj0 (.slice q 0 t) 0 rfl C A.heap.size ii ii oX D ?_);intro m E O hown jE lN;have f:=bV5;clear hown jE lN C))
  clear Eo D;go_roundw
  case rel=>exact⟨1,_,_,_,_,ii,ii,ii,oX,f⟩
  simp[intOf]
 obtain rfl:k=1:=oX
 have x:=ag l.out.Z9
 go_wp2_with (first
  |(at_builtin;go_loud (refine gY (us:=#[I 6,I 1,I 0,I 0,.slice none 0 0,B false]) (w2:=wr) ii (.tmp 26) (.tmp 28) 50 rfl underlying50 J K L M ii dX dX ii ii cj0 (.slice n 1 p) 1 rfl x wr.heap.size ii ii oX U ?_);intro g y A hown jE lN;have Eo:=ag ((l.out.alloc (.cells #[I 6,I 1,I 0,I 0,.slice none 0 0,B false] 49)).U6 (o:={ai:=6,ch:=1}) ii jE hown lN);have C:=ag Eo.out.aa0;have D:=Eo.out.lo.1;clear hown jE lN x)
  |(at_builtin;go_loud (refine gY (us:=#[I 3,I 1,I 0,I 0,.slice none 0 0,B false]) (w2:=A) ii (.tmp 30) (.tmp 32) 50 rfl underlying50 J K L M ii dX dX ii ii cj0 (.slice q 1 t) 1 rfl C A.heap.size ii ii oX D ?_);intro m E O hown jE lN;have f:=bV5;clear hown jE lN C))
 clear Eo D;go_ret;have Z:=f.out.alloc (.cells #[(g,2,y),(m,2,E)] 50);obtain⟨N,cap,ct,Q⟩:=Z;have F:=Q.h1;have G:=Q.h2
 have b1:N true=some g:=by
  cases H:N true with
  |none=>rw[H]at F;simp[nG]at F
  |some z=>rw[H]at F;simp[nG]at F;rw[F.1]
 have b2:N false=some m:=by
  cases H:N false with
  |none=>rw[H]at G;simp[nG]at G
  |some z=>rw[H]at G;simp[nG]at G;rw[G.1]
 refine⟨_,_,ii,⟨dX,λi os d=>?_⟩,Q.own.below⟩;have W:∀j,(O.alloc (.cells #[(g,2,y),(m,2,E)] 50)).cell? ⟨O.heap.size,j,none⟩=(#[(g,2,y),(m,2,E)]:dl)[j]?:=λj=>cr (dP)
 match i,d with
 |0,d=>
  simp at d;subst d;refine⟨_,0,g,y,ii,W 0,PC dX (λo d=>?_) (λo d=>?_) (λj u R=>Q.own.cell b1 (by rw[Q.c1];exact R))⟩
  .grind [FV]
  .simp[FV]at d;rcases d with rfl|rfl<;>exact⟨cm7,cm7,cm7,cm7⟩
 |1,d=>
  simp at d;subst d;refine⟨_,0,m,E,ii,W 1,PC dX (λo d=>?_) (λo d=>?_) (λj u R=>Q.own.cell b2 (by rw[Q.c2];exact R))⟩
  .grind [FW]
  .simp[FW]at d;subst d;exact⟨cm7,cm7,cm7,cm7⟩
 |i+2,d=>simp at d
def tJ(w:World)(c:am)(a:bv):Prop:=
 a.length<=9223372036854775807/\∀(j:Nat),j<a->∃b off d e f g x h i,c=(b,off)/\
  w.cell? (b,off+j*6)=some (.int .i64 d)/\w.cell? (b,off+j*6+1)=some (.int .i64 e)/\w.cell? (b,off+j*6+2)=some (.int .i64 f)/\w.cell? (b,off+j*6+3)=some (.int .i64 g)/\
  w.cell? (b,off+j*6+4)=some (.slice x (a.getD j 0) h)/\w.cell? ⟨b,off+j*6+5,none⟩=some (.bool i)/\a.getD j 0<=9223372036854775807
def nZ(w:World)(d:am)(a:ap):Prop:=
 a.length<=9223372036854775807/\∀(i:Nat),i<a->∃b off r c,d=(b,off)/\w.cell? ⟨b,off+i,none⟩=some (.slice r (a.getD i []).length c)/\tJ w r (a.getD i [])
theorem tJ.fU{d:bv}(h:tJ f A d)(c:∀a v,f.cell? a=some v->w'.cell? a=v):tJ w' A d:=
 ⟨h.1,λj g=>by obtain⟨b,off,i,k,l,m,x,n,o,e,p,q,r,s,t,u,w⟩:=h.2 j g;exact⟨b,off,i,k,l,m,x,n,o,e,c _ _ p,c _ _ q,c _ _ r,c _ _ s,c _ _ t,c _ _ u,w⟩⟩
theorem nZ.fU{w d:World}{f:am}{g:ap}(h:nZ w f g)(j:∀a v,w.cell? a=some v->d.cell? a=v):nZ d f g:=
 ⟨h.1,λi k=>by obtain⟨b,off,r,c,e,l,m⟩:=h.2 i k;exact⟨b,off,r,c,e,j _ _ l,m.fU j⟩⟩
section
variable{w:World}{B:Nat}
theorem tJ.below{b:bv}(h:tJ w A b)(hb:Below B w w')(c:w<=B):tJ w' A b:=by
 exact ce1
theorem nZ.below(h:nZ w A N)(hb:Below B w w')(b:w<=B):nZ w' A N:=by
 exact ce1
end
def rR:bv->Nat
 | []=>0
 |c::a=>24+16*c+rR a
def CI:ap->Nat
 | []=>0
 |r::a=>rR r+CI a
def Small(a:ap):Prop:=a.length<=100/\∀i,i<a.length->(a.getD i []).length<=100/\∀j,j<(a.getD i []).length->(a.getD i []).getD j 0<=100
theorem BF:∀(a:bv) (j:Nat),j<a->rR (a.take (j+1))=rR (a.take j)+(24+16*a.getD j 0)
 | [],j,h=>aX h sX
 |c::a,0,_=>by simp[rR]
 |c::a,j+1,h=>by have:=BF a j ck0;grind [rR]
theorem EK:∀(a:ap) (i:Nat),i<a->CI (a.take (i+1))=CI (a.take i)+rR (a.getD i [])
 | [],i,h=>aX h sX
 |r::b,0,_=>by simp[CI]
 |r::b,i+1,h=>by have:=EK b i ck0;grind [CI]
theorem Sl(a:ap):CI (a.take a)=CI a:=by rw[aj3]
theorem Ll(b:ap)(n:Nat)(l:n=b)(a:am)(F:Nat)(w:World)(B:nZ w a b)(o:Small b):gt 32 #[(a,n,F)] w λe G=>e=Value.int .i64 ((n+CI b:Nat):Int)/\Below w w G:=by
 have El:n<=100:=by rw[l];exact o.1
 have Hn:=ag l;clear l;have H1:=ag B;clear B;have H:=ag o;clear o;go_enter func32,ntmps32;go_wp2;go_loopw [3,5,7,12] (λv _ _ i wr=>∃j s:Nat,j<=n/\i=.int .i64 j/\v=.int .i64 s/\s<=100+162400*j/\Hid (s=n+CI (b.take j))/\Hid (Below w w wr)) (λ_ _ _ i _=>n-(intOf i).toNat)
 case atStart=>exact⟨0,n,wn _,ii,ii,oX,(by simp[CI]:n=n+CI (b.take 0)),fp⟩
 obtain⟨j,s,hj,rfl,rfl,mB,I,HB⟩:=hrel;by_cases dD:j<n
 .obtain⟨b1,o1,r1,c1,rfl,C,p⟩:=bV6;have d:=H.out.2 j cn8;have r:=EK b j cn8;obtain⟨c,D⟩:=dC (b.getD j []);rw[<-D]at C p d r;obtain⟨m,u⟩:=dC (c.length);rw[<-u]at C d;have YL:m<=100:=d.1;obtain⟨J,y,Xw,HM⟩:=ia p d.2 r u;obtain⟨f,K⟩:=dC (wr);subst K;clear p d r u D;go_wp2;go_loopw [3,7,18] (λv _ i L=>∃k t:Nat,k<=m/\i=.int .i64 k/\v=.int .i64 t/\t<=s+1624*k/\Hid (t=s+rR (c.take k))/\Hid (Below f f L)) (λ_ _ i _=>m-(intOf i).toNat)
  case atStart=>exact⟨0,s,wn _,ii,ii,oX,(by simp[rR]:s=s+rR (c.take 0)),fp⟩
  obtain⟨k,t,hk,rfl,rfl,YM,M,g⟩:=hrel;by_cases rT:k<m
  .obtain⟨b2,o2,N,O,Q,R,x,S,T,rfl,e0,e1,e2,e3,U,e5,W⟩:=(J.out.below g cG).2 k co8;have X:=y.out k rT;have z:=BF c k co8;obtain⟨q,E⟩:=dC (c.getD k 0);rw[<-E]at U X z W;have Y:Hid (t+(24+16*q)=s+rR (c.take (k+1))):=by show _=_;rw[z,M.out];omega
   clear z E;have Z:=g.out.size;have A:Hid (Below f f (wr.alloc (.cells #[.int .i64 N,.int .i64 O,.int .i64 Q,.int .i64 R,(x,q,S),.bool T] 49))):=g.out.alloc Z _;go_wp2;go_roundw
   case rel=>exact⟨k+1,t+(24+16*q),oX,cj8,cj8,oX,Y,A⟩
   simp[intOf];omega
  obtain rfl:k=m:=oX
  have z:Hid (t=n+CI (b.take (j+1))):=by show _=_;grind [Hid.out]
  have E:=HB.out.size;have A:Hid (Below w w wr):=HB.out.trans (g.out.mono E);go_wp2;go_roundw
  case rel=>exact⟨j+1,t,oX,cj8,ii,oX,z,A⟩
  simp[intOf];omega
 obtain rfl:j=n:=oX
 have c:s=j+CI b:=by rw[I.out,show j=b.length from Hn.out,Sl]
 have d:=ag c;clear c;go_wp2;go_ret;refine⟨?_,HB⟩;rw[d.out];rfl
def Lm(r:bv):Prop:=16<r.length\/∃j,j<r.length/\6<r.getD j 0
def Ln(a:ap)(k:Int):Prop:=k<1\/1048576<k\/8<a.length\/∃i,i<a.length/\Lm (a.getD i [])
def J3(a:ap)(k b:Int):Prop:=(Ln a k->b=0)/\(¬Ln a k->b=k*(((a+CI a:Nat):Int)+1))
theorem nr(h:Ln N Y):J3 N Y 0:=⟨λ_=>rfl,λa=>aX h a⟩
theorem VE{k:Int}{S:Nat}(b:1<=k)(a:k<=1048576)(c:S<=16240200):0<=k*(S:Int)/\k*(S:Int)<=1048576*16240200:=
 ⟨Int.mul_nonneg oX oX,Int.mul_le_mul a oX oX oX⟩
theorem J4:∀(r:bv),(∀j,j<r.length->r.getD j 0<=100)->rR r<=1624*r
 | [],_=>by simp[rR]
 |c::r,h=>by
  have a:=h 0 sX;have:=J4 r λj hj=>h (j+1) ct5
  grind [rR]
theorem NZ:∀(a:ap),(∀i,i<a.length->rR (a.getD i [])<=162400)->CI a<=162400*a
 | [],_=>by simp[CI]
 |r::a,h=>by
  have b:=h 0 sX;have:=NZ a λj hj=>h (j+1) ct5
  grind [CI]
theorem N0(h:Small N):N+CI N<=16240100:=by
 have:=NZ N λi a=>by have b:=J4 _ (h.2 i a).2;have c:=(h.2 i a).1;omega
 have:=h.1;omega
theorem Hv(c:ap)(n:Nat)(v:n=c)(a:am)(J:Nat)(k:Int)(w:World)(d:nZ w a c)(y:Small c):gt 12 #[(a,n,J),.int .i64 k] w λe Z=>(∃b,e=Value.int .i64 b/\J3 c k b)/\Below w w Z:=by
 have El:n<=100:=by rw[v];exact y.1
 have Hn:=ag v;clear v;have H1:=ag d;clear d;have K:=ag y;clear y;go_enter func12,ntmps12;by_cases jg:k<1
 .go_wp2;go_ret;exact⟨⟨_,ii,nr (.inl jg)⟩,fp⟩
 by_cases jO:1048576<k
 .go_wp2;go_ret;exact⟨⟨_,ii,nr (.inr (.inl jO))⟩,fp⟩
 by_cases A:8<n
 .go_wp2;go_ret;exact⟨⟨_,ii,nr (.inr (.inr (.inl (by rw[<-Hn.out];exact A))))⟩,fp⟩
 go_wp2;go_loopw [6,8,22] (λ_ _ i wr=>∃j:Nat,j<=n/\i=.int .i64 j/\Hid (∀i,i<j->¬Lm (c.getD i []))/\Hid (Below w w wr)) (λ_ _ i _=>n-(intOf i).toNat)
 case atStart=>exact⟨0,wn _,ii,λi o=>aX o oX,fp⟩
 obtain⟨j,hj,rfl,HK,HB⟩:=hrel;by_cases dD:j<n
 .obtain⟨b1,o1,r1,c1,rfl,L,B⟩:=bV6;have C:∀h:Lm (c.getD j []),Ln c k:=λh=> .inr (.inr (.inr ⟨j,cn8,h⟩))
  have D:∀h:¬Lm (c.getD j []),∀i,i<j+1->¬Lm (c.getD i []):=λh i o=>by grind [Hid.out]
  obtain⟨f,M⟩:=dC (c.getD j []);rw[<-M]at L B D C;obtain⟨m,E⟩:=dC (f.length);rw[<-E]at L;obtain⟨N,Xw,HM,O⟩:=ia B D E C;obtain⟨r,VB⟩:=dC (wr);subst VB;have a0:m<=9223372036854775807:=by rw[HM.out];exact N.out.1
  clear B D E M C;by_cases VF:16<m
  .go_wp2;go_ret;exact⟨⟨_,ii,nr (O (.inl (by rw[<-HM.out];exact VF)))⟩,HB⟩
  go_wp2;go_loopw [8,31] (λ_ i VC=>∃q:Nat,q<=m/\i=.int .i64 q/\Hid (∀j,j<q->¬6<f.getD j 0)/\Hid (Below r r VC)) (λ_ i _=>m-(intOf i).toNat)
  case atStart=>exact⟨0,wn _,ii,λi o=>aX o oX,fp⟩
  obtain⟨q,hq,rfl,HT,l⟩:=hrel;have s:=HB.out.size;have vz:=l.out.size;by_cases rT:q<m
  .obtain⟨b2,o2,Q,R,T,U,x,W,X,rfl,e0,e1,e2,e3,e4,e5,hx⟩:=(N.out.below l cG).2 q co8;have F:6<f.getD q 0->Lm f:=λh=> .inr ⟨q,co8,h⟩
   have g:¬6<f.getD q 0->∀j,j<q+1->¬6<f.getD j 0:=λh i o=>by grind [Hid.out]
   obtain⟨t,Y⟩:=dC (f.getD q 0);rw[<-Y]at e4 hx F g;obtain⟨G,H⟩:=dA F g;have u:Hid (Below r r (wr.alloc (.cells #[.int .i64 Q,.int .i64 R,.int .i64 T,.int .i64 U,(x,t,W),.bool X] 49))):=l.out.alloc vz _;have I:Hid (Below w w (wr.alloc (.cells #[.int .i64 Q,.int .i64 R,.int .i64 T,.int .i64 U,(x,t,W),.bool X] 49))):=HB.out.trans (u.out.mono s);clear Y F g;by_cases p:6<t
   .go_wp2;go_ret;exact⟨⟨_,ii,nr (O (G p))⟩,I⟩
   go_wp2;go_roundw
   case rel=>exact⟨q+1,oX,cj8,H p,u⟩
   simp[intOf];omega
  obtain rfl:q=m:=oX
  have g:=ag (Xw.out λh=>by
   rcases h with h|⟨i,d,F⟩
   .grind [Hid.out]
   exact HT i (by rw[HM.out];exact d) F)
  have u:Hid (Below w w wr):=HB.out.trans (l.out.mono s);go_wp2;go_roundw
  case rel=>exact⟨j+1,oX,cj8,g,u⟩
  simp[intOf];omega
 obtain rfl:j=n:=oX
 have u:¬Ln c k:=λh=>by
  rcases h with h|h|h|⟨i,d,F⟩
  .omega
  .omega
  .grind [Hid.out]
  grind [Hid.out]
 have C:=ag u;clear u;obtain⟨S,g⟩:=dC (j+CI c);have D:S<=16240100:=by rw[g,Hn.out];exact N0 K
 have p:=Ll c j Hn.out a J wr (H1.out.below HB cG) K;rw[<-g]at p;rw[Hn.out]at g;have E:=ag g;have G:=ag p;have s:=HB.out.size;have f:=VE (k:=k) (S:=S+1) oX oX oX;have r:=ag f;clear g p f;go_wp2_with fail
 refine G.out.mono ?_;rintro e H ⟨rfl,B⟩;have l:Hid (Below w w H):=HB.out.trans (B.mono s);clear B;go_wp2;go_ret;refine⟨⟨_,ii,λh=>aX h C,λ_=>?_⟩,l⟩;rw[<-E.out];have d:=r.out;rw[show(((S+1:Nat)):Int)=(S:Int)+1 from rfl]at d;generalize k*((S:Int)+1)=z at d ⊢;unfold wrap64;omega