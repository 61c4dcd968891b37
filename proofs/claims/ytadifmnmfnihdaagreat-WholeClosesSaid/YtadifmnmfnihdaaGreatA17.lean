import Derived.Test.YtadifmnmfnihdaaGreatA12
import Derived.Test.YtadifmnmfnihdaaGreatA14
import Derived.Test.YtadifmnmfnihdaaGreatA15
import Derived.Test.YtadifmnmfnihdaaGreatA16
set_option linter.all false
set_option maxRecDepth 100000
set_option maxHeartbeats 40000000
namespace Go.Proofs.YtadifmnmfnihdaaGreat
open Go.RowKit Mach Go.Proofs.Tryz
section
variable{af:Nat}{F:Fx}{w w0 w':World}{m m0 m':Mem}{S S':Wd}{L:List (Nat×Obj)}
section
variable(R:bz af F w m S)
include R
theorem Mx(hl:∀v∈S.list,0≤v∧v≤65535)(n:Int)(hn:1≤n∧n≤100000)(h0:0≤S.drawn∧S.drawn≤1000000):Calls prog 197 #[.pointer (some ⟨F.gN,0,none⟩),I n] w (eL (I (gw S.list S.drawn n).1) fun w'=>At af F m w m w' {S with drawn:=(gw S.list S.drawn n).2}):=by
 unfold gw;by_cases h:(S.list.length:Int)≤S.drawn
 ·rw[aF (.inr h)];exact Ss R n hn S.drawn rfl h
 ·rw[aE oX];obtain⟨d,hd⟩:=pz h0.1;have Lw:d<S.list.length:=by omega
  have hv:S.list[d]?=some S.list[d]:=fv Lw;have h:=Oa R n hn d hd oX _ hv (hl _ (List.getElem_mem Lw));rw[hd,eR,hv];exact h
theorem PZ(g:Int):Calls prog 137 #[.pointer (some ⟨F.dB,0,none⟩),I g] w (eL (.bool (Av S.ax g).2) fun w'=>At af F m w m w' {S with ax:=(Av S.ax g).1}):=by
 have c0:=R.Bu;have pI:=ag (fun W (R:bz af F W m S)=>gZ R g);have HR:=ag (At.refl R);unfold Av;by_cases h0:bU S.ax g=0
 ·obtain⟨j,rfl,hj,hx⟩:=sP (b:=S.ax) (g:=g) oX;rw[h0]at hx pI;rw[aE (by rw[h0];simp)];obtain⟨tk,xT⟩:=dC (token S.ax (j:Int));rw[←xT]at hx;obtain⟨e0,e1⟩:=R.one hx;have f0:=R.frozen R.aB.ax (j*2);have f1:=R.frozen R.aB.ax (j*2+1);have A1:=HR.out.one (q:=0) hx (2,tk) oX (v:=I 2) rfl;have A2:=A1.one (j:=j) (q:=1) (x:=(2,tk)) (by show(S.ax.set j (2,tk))[j]?=_;exact getElem?_set_self' hx) (2,false) oX (v:=B false) rfl;have Ap:=ag (A2.eq (S':={S with ax:=S.ax.set j (2,false)}) sX);clear R hx h0 xT A1 A2;go_enter func137,ntmps137;exact aX2
 ·rw[aF h0];obtain⟨st,EZ⟩:∃st,st=bU S.ax g:=⟨_,rfl⟩;rw[←EZ]at pI h0;have ff:(st !=0)=true:=by simpa using h0
  clear R EZ;go_enter func137,ntmps137;exact bh8
theorem zC(g:Nat)(S':Wd)(hm:never S g=some S'):Calls prog 139 #[bR F,I g] w (ee fun w'=>At af F m w m w' S'):=by
 obtain⟨x,hx,rfl⟩:=Nb hm;have c4:=R.nJ;have HR:=ag (At.refl R);have HX:=ag hx;have eM:=cA hx;clear R hm hx;unfold bR;go_enter func139,ntmps139;go_wp2_with (go_at_call 157;refine(Kl HR.out g).mono ?_;rintro e w1 ⟨⟨b,rfl⟩,A1⟩;have R1:=A1.bj;have c3:=R1.eu;have p2:=R1.g HX 2 _ rfl;have wW:=R1.frozen R1.aB.gs (g*25+2);have cm:=R1.lt R1.aB.gs;have aU:=R1.lt R1.aB.al;have A2:=A1.g HX {x with ae:=19} (q:=2) (v:=I 19);have HA:=ag A2;clear A1 A2 R1);go_end0;exact⟨rfl,HA⟩
theorem F7(g:Nat)(aJ:Int)(S':Wd)(hm:Nc S g aJ=some S'):Calls prog 140 #[bR F,I g,I aJ] w (ee fun w'=>At af F m w m w' S'):=by
 unfold Nc fL at hm
 cases hx:S.gs[g]? with
 |none=>rw[hx]at hm;cases hm
 |some x=>
  rw[hx]at hm
  cases hm;have c2:=R.dM;have c3:=R.eu;have eM:=cA hx;obtain⟨g2,xV⟩:=R.ps hx 2 _ rfl;obtain⟨g12,xC⟩:=R.ps hx 12 _ rfl;obtain⟨g15,tT⟩:=R.ps hx 15 _ rfl;obtain⟨g16,tU⟩:=R.ps hx 16 _ rfl;obtain⟨g17,tV⟩:=R.ps hx 17 _ rfl;obtain⟨g18,tW⟩:=R.ps hx 18 _ rfl;obtain⟨g19,tX⟩:=R.ps hx 19 _ rfl;obtain⟨aU,cm,aY,aZ⟩:=R.pB;have A1:=(At.refl R).res hx {aJ:=aJ,case:= -1};have A2:=A1.g (az hx) {x with res:={aJ:=aJ,case:= -1},point:=S.av} (q:=12) (v:=I S.av)
  rw[aA]at A2;have A3:=A2.g (az hx) {x with res:={aJ:=aJ,case:= -1},point:=S.av,ae:=18} (q:=2) (v:=I 18);rw[aA]at A3;have HA:=ag A3;clear R hx A1 A2 A3;unfold bR;go_enter func140,ntmps140;go_wp2;go_end0;refine⟨rfl,?_⟩;try simp only[Nat.add_assoc,Nat.reduceAdd]
  exact HA
end
end
theorem Pv:(prog.info? 46).map (fun i=>(i.zero,i.size,i.bytes))=some (some (.agg #[I 0,I 0,I 0,I 0,I 0,I 0,I 0,I 0,I 0,I 0,I 0,B false,I 0]),13,104):=kX
theorem underlying39:prog.underlying 39=some (.slice 46):=kX
theorem wy{P:Program}{ops:Array Oper}{o:Oper}{a:Act}{w:World}{K:Act→World→Prop}{Q:Exit→Act→World→Prop}{E:Prop}(nX:o.guard=none)(f:FuncId)(xs:Array Operand)(ts:Array TypeId)(ho:o.op=.call {callee:=.value (.func f),args:=xs,argTypes:=ts})(hen:∀args,(callFunc f args).run P w=.ok (.enter f args) w)(args:Array Value)(ha:xs.map a.eval=args)(post:Ending→World→Prop)(hC:Calls P f args w post)(h:∀e w',post e w'→∃v,e=.returned v∧K (a.put o.dst v) w'):if Region.wanted o (yielded ops a.tmps)=true then Oper.wp P o a w K Q else E:=by
 have hw:Region.wanted o (yielded ops a.tmps)=true:=bm2
 rw[aF hw];have hr:(execOp a.eval o).run P w=.ok (.enter f args) w:=by subst ha;simp[execOp,ho,resolve,invoke,hen,Act.eval,Deferred.ofValue]
 unfold Oper.wp;rw[hr,Oper.upon_enter];refine hC.mono ?_;intro e w' hp;obtain⟨v,rfl,hk⟩:=h e w' hp;exact hk
theorem Mc(args:Array Value)(w:World):(callFunc 144 args).run prog w=.ok (.enter 144 args) w:=by
 have hN : (Tryz.f144.name == "runtime.NumGoroutine") = false := kX
 have hN : ¬ Tryz.f144.name = "runtime.NumGoroutine" := by simpa using hN
 have hB:Tryz.f144.body.isNone=false:=kX
 have hB:¬Tryz.f144.body=none:=fun h=>by rw[h]at hB;cases hB
 simp[callFunc,func144,go_sem,hN,hB]
section
variable{af:Nat}{F:Fx}{w w0 w':World}{m m0 m':Mem}{S S':Wd}{L:List (Nat×Obj)}
theorem S6(A:At af F m0 w0 m w S){g:Nat}{x:bI}(hx:S.gs[g]?=some x)(re:Int):Calls prog 144 #[bR F,I g,I re] w (eL (.agg #[I g,I x.at_,I x.call,I x.bJ,I x.point,I x.bF,I x.fire,I re,I x.res.aJ,I x.res.case,I x.res.v,B x.res.ok,I x.res.n]) fun w'=>At af F m0 w0 m w' S):=
 (Lx A.bj g x hx re).mono fun e w' ⟨h1,h2⟩=>⟨h1,A.cont h2⟩
theorem Dy{o:Option Nat}{c:Nat}{l:List Ex}:∀r',r'≠bH.done→r'≠ .al→aj (m.eG .done o c) {S with done:=l} r'=aj m S r':=by
 intro r' h1 h2;have hu:∀r,r≠bH.done→∀n,(m.eG .done o c).cU r n=m.cU r n:=fun r hr n=>Mem.qv m o c n hr
 cases r'<;>first
  |exact aX rfl h1
  |exact aX rfl h2
  |rfl
  |(simp only[aj,gk,Cu,je,Mem.sL _ _ _ (show bH.au≠ .done by simp),hu _ (show _≠bH.done by simp),ne_eq,reduceCtorEq,not_false_eq_true];done)
theorem ua{g c:Nat}{l:List Ex}:aj (m.eG .done (some g) c) {S with done:=l} .al=(aj m S .al).set 13 (.slice (some ⟨g,0,none⟩) l.length c):=by
 simp only[aj,Mem.cU,Mem.ptr,Mem.eG,reduceCtorEq,dF,dt];rfl
theorem At.S8{w1:World}(A:At af F m0 w0 m w S){g c:Nat}{l:List Ex}(hg:w.grownBy w1 (m.aV .done))(hown:w1.ownsRow af 46 13 (.slice (some ⟨g,0,none⟩) l.length c) l.length (bT ib 0 l))(bE:m.aV .done=some g∨w.heap.size≤g):At af F m0 w0 (m.eG .done (some g) c) (w1.setCell ⟨F.al,13,none⟩ (.slice (some ⟨g,0,none⟩) l.length c)) {S with done:=l}:=
 A.row (r:=.done) (p:=(46,13)) rfl bj8 A.bj.aB.al sX hg hown bE rfl ua Dy
theorem Pw{A0:World}(A:At af F m0 w0 m A0 S){g:Nat}{x:bI}(hx:S.gs[g]?=some x):Calls prog 84 #[bR F,I g] A0 fun e w'=>e=.returned (.tuple #[])∧∃m',At af F m0 w0 m' w' (S.ay g (bu x)):=
 (yE A.bj g x hx).mono fun e w' ⟨h1,m',h2⟩=>⟨h1,m',A.cont h2⟩
theorem IM{w2 W3 w3:World}{gg cap:Nat}{v:Value}{o:Obj}{k:Ex}(A:At af F m0 w0 m w2 S)(hW:W3=w2.alloc o)(jz:v.ownBlock=m.aV .done)(ho:w3.ownsRow af 46 13 (.slice (some ⟨gg,0,none⟩) (S.done.length+1) cap) (S.done.length+1) (bT ib 0 S.done++ib 0 k))(hg:W3.grownBy w3 v.ownBlock)(hw:v.ownBlock=some gg∨W3.heap.size≤gg):At af F m0 w0 (m.eG .done (some gg) cap) (w3.setCell ⟨F.al,13,none⟩ (.slice (some ⟨gg,0,none⟩) (S.done.length+1) cap)) {S with done:=S.done++[k]}:=by
 subst hW;rw[jz]at hg hw;have hl:(S.done++[k]).length=S.done.length+1:=sX
 have hf:bT ib 0 (S.done++[k])=bT ib 0 S.done++ib 0 k:=by rw[ni];simp[bT,ib]
 have h:=(A.alloc o).S8 (l:=S.done++[k]) (g:=gg) (c:=cap) hg (by rw[hl,hf];exact ho) hw;rw[hl]at h;exact h
theorem FN(R:bz af F w m S)(g:Nat)(S':Wd)(hm:mL S g=some S'):Calls prog 91 #[bR F,I g] w (ee (To af F m w S')):=by
 unfold mL at hm;simp only[bW,cI]at hm;obtain⟨x,hx,hm⟩:=hm;by_cases h1:kJ x.at_=false
 ·rw[aF h1]at hm;cases hm
 rw[aE h1]at hm;have ks:=lM h1;by_cases h2:1000000≤S.done.length
 ·rw[aF h2]at hm;cases hm
 rw[aE h2]at hm
 cases hm;have eM:=cA hx;obtain⟨i0,hi,fV,gF,gG⟩:=info_parts Pv;have c2:=R.dM;have V2:=R.NF;obtain⟨aU,cm,aY,aZ⟩:=R.pB;have HA:=ag (At.refl R);have HX:=ag hx;obtain⟨n,hn⟩:=dC (S.done.length);obtain⟨v,hv⟩:=dC (m.cU .done S.done.length);rw[←hv]at V2;obtain⟨HN,HV⟩:=dA hn hv;have Kc:Hid (v.ownBlock=m.aV .done):=by rw[hv,Mem.mM];exact ag rfl
 have E8:Hid (v.ownBlock≠some F.al):=by rw[Kc.out];exact R.jv R.aB.al sX
 have RE:n<1000001:=oX
 clear R hx hn hv h1 h2;have Kz:=ag (fun(ops:Array Oper) (o:Oper) (ac:Act) (K:Act→World→Prop) (Q:Exit→Act→World→Prop) (E:Prop) (W:World) (nX:o.guard=none) (ho:o.op=.call {callee:=.value (.func 144),args:=#[.tmp 9,.tmp 10,.tmp 14],argTypes:=#[76,3,3]}) (ha:(#[.tmp 9,.tmp 10,.tmp 14]:Array Operand).map ac.eval=#[.pointer (some ⟨F.al,0,none⟩),I g,I S.av]) (hW:W.heap=w.heap) (h2:W.os=w.os) (h3:W.tape=w.tape) (h4:W.output=w.output) (hK:∀w1,At af F m w m w1 S→K (ac.put o.dst (.agg #[I g,I x.at_,I x.call,I x.bJ,I x.point,I x.bF,I x.fire,I S.av,I x.res.aJ,I x.res.case,I x.res.v,B x.res.ok,I x.res.n])) w1)=>wy (P:=prog) (ops:=ops) (o:=o) (a:=ac) (w:=W) (K:=K) (Q:=Q) (E:=E) nX 144 _ _ ho (fun args=>Mc args W) _ ha _ (S6 (HA.out.aI hW h2 h3 h4) HX S.av) (fun e w' h=>⟨_,h.1,hK w' h.2⟩));unfold bR;go_enter func91,ntmps91;go_wp2_with fail
 go_region_law (first|(refine Kz _ _ _ _ _ _ _ rfl rfl bj0 rfl rfl rfl rfl ?_;intro wN A1;have RN:=A1.bj;have hown:=RN.owns (r:=.done) (p:=(46,13)) rfl dX (n:=n) (by rw[HN.out];exact aV9 (f:=ib) (k:=13) (fun _ _=>rfl) S.done 0);rw[show m.cU .done n=v by rw[HN.out,HV.out]]at hown;have HO:=ag hown;have qq:=RN.eS;have e13:=RN.NF;rw[show m.cU .done S.done.length=v from HV.out.symm]at e13;have Z2:=RN.frozen RN.aB.al 13;have l1:=RN.lt RN.aB.al;have HB:=ag A1;clear A1 RN hown)|(refine jN (us:=#[I g,I x.at_,I x.call,I x.bJ,I x.point,I x.bF,I x.fire,I S.av,I x.res.aJ,I x.res.case,I x.res.v,B x.res.ok,I x.res.n]) (w2:=wN) rfl (.tmp 8) (.tmp 16) 39 rfl underlying39 hi fV gF gG rfl dX dX rfl rfl bi9 v n _ rfl HO rfl RE qq ?_;intro gg cap w3 ah8 bX bE;have d13:=fW (o:=.cells #[I g,I x.at_,I x.call,I x.bJ,I x.point,I x.bF,I x.fire,I S.av,I x.res.aJ,I x.res.case,I x.res.v,B x.res.ok,I x.res.n] 46) bX e13 rfl E8;have aq8:=fN (o:=.cells #[I g,I x.at_,I x.call,I x.bJ,I x.point,I x.bF,I x.fire,I S.av,I x.res.aJ,I x.res.case,I x.res.v,B x.res.ok,I x.res.n] 46) bX Z2 l1 rfl E8;obtain⟨Iq,Ns,SH⟩:=ij ah8 bX bE;clear ah8 bX bE))
 all_goals
  have A5:=IM (k:=qu x g S.av) HB rfl Kc (by rw[←HN.out];exact Iq) Ns SH;rw[←HN.out]at A5;obtain⟨w5,Ha,A5⟩:∃w5,w5=_∧At af F m w (m.eG .done (some gg) cap) w5 _:=⟨_,rfl,A5⟩;rw[←Ha];have R5:=A5.bj;have HX5:Hid (({S with done:=S.done++[qu x g S.av]}:Wd).gs[g]?=some x):=HX.out;have d3:=R5.eu;have l2:=R5.lt R5.aB.gs;have l3:=R5.lt R5.aB.al;have g1:=R5.g HX5 1 _ rfl;have gf1:=R5.frozen R5.aB.gs (g*25+1);have vV:=ag (A5.g HX5 {x with at_:=x.at_+1} (q:=1) (v:=I (x.at_+1)));have Hb:Hid ((({S with done:=S.done++[qu x g S.av]}:Wd).ay g {x with at_:=x.at_+1}).gs[g]?=some {x with at_:=x.at_+1}):=az HX5;clear A5 Ha R5 d13 aq8 e13 Z2 c2 V2;go_wp2_with (go_at_call 84;refine(Pw (S:=({S with done:=S.done++[qu x g S.av]}:Wd).ay g {x with at_:=x.at_+1}) vV.out.aI Hb).mono ?_;rintro e w6 ⟨rfl,m6,A6⟩;have R6:=A6.bj;have FO:=ag (az (y:=bu {x with at_:=x.at_+1}) Hb);have q3:=R6.eu;simp only[Wd.ay,kI]at q3;have l4:=R6.lt R6.aB.gs;have l5:=R6.lt R6.aB.al;have q2:=R6.g FO 2 _ rfl;have fq2:=R6.frozen R6.aB.gs (g*25+2);have HZ:=ag (A6.g FO {bu {x with at_:=x.at_+1}with ae:=0} (q:=2) (v:=I 0));clear A6 R6);go_end0;refine⟨rfl,_,HZ.out.eq ?_⟩;rw[aA,aA]
section
variable(X:AB af F m0 w0 m w S L)
include X
theorem MA(aG:Good S)(g:Nat){ch:Int}(bO:eX ch){S':Wd}(hm:jI S g ch=some S'):Calls prog 163 #[bR F,I g,I ch] w (ee fun w'=>AB af F m0 w0 m w' S' L):=
 (FK X.bj aG g ch bO S' hm).mono fun e w' ⟨h1,h2⟩=>⟨h1,X.av h2⟩
theorem Qm(aG:Good S)(g:Nat)(hg:g<S.gs.length){o:cu}(bO:eX o.ch)(ca:Option Addr)(cn cc:Nat){S':Wd}(hm:jZ S g o=some S'):Calls prog 166 #[bR F,I g,.agg #[I o.ai,I o.ch,I o.n,I o.v,.slice ca cn cc,B o.dG]] w (ee fun w'=>AB af F m0 w0 m w' S' L):=
 (IE X.bj aG g hg o bO ca cn cc S' hm).mono fun e w' ⟨h1,h2⟩=>⟨h1,X.av h2⟩
theorem Gk(aG:Good S){ch:Int}(bO:eX ch){s:Nat}{S2:Wd}{v:Int}(hm:ik S ch s=some (S2,v)):Calls prog 165 #[bR F,I ch,I s] w (eL (I v) fun w'=>AB af F m0 w0 m w' S2 L):=
 (IH X.bj aG ch bO s S2 v hm).mono fun e w' ⟨h1,h2⟩=>⟨h1,X.av h2⟩
theorem xk{ch:Int}(bO:eX ch):Calls prog 164 #[I ch] w (eL (I (2*ch-1)) fun w'=>AB af F m0 w0 m w' S L):=
 (tp ch bO w).mono fun e w' ⟨h1,h2⟩=>⟨h1,h2▸X⟩
end
theorem Good.aw(h:Good S)(q:bf):Good {S with aw:=q}:=⟨h.Eg,h.aC,h.au,h.wakes,h.nA⟩
theorem Good.fZ(h:Good S){x:Int}{S':Wd}(hq:fZ S x=some S'):Good S':=by
 obtain⟨q,b,_,rfl⟩:=mF hq;exact h.aw q
section
variable(R:bz af F w m S)(aG:Good S)(g:Nat)(x:bI)(hx:S.gs[g]?=some x)(o:cu)(bO:eX o.ch)(ca:Option Addr)(cn cc:Nat)
include R aG g x hx o bO ca cn cc
theorem MB(hp:x.ae=5)(S':Wd)(hm:jI S g o.ch=some S'):Calls prog 107 #[bR F,I g,.agg #[I o.ai,I o.ch,I o.n,I o.v,.slice ca cn cc,B o.dG]] w (ee (To af F m w S')):=by
 have eM:=cA hx;have c3:=R.eu;have c8:=R.dR;obtain⟨aU,cm,aY,aZ⟩:=R.pB;have g2:=R.g hx 2 _ rfl;have g9:=R.g hx 9 _ rfl;rw[hp]at g2;have HX:=ag ((AB.iU R).alloc (.cells #[I o.ai,I o.ch,I o.n,I o.v,.slice ca cn cc,B o.dG] 49));obtain⟨HG,ie⟩:=dA hx aG;have HM:=ag hm;clear R hx hp aG hm;unfold bR;go_enter func107,ntmps107;go_wp2_with (go_at_call 163;refine(MA HX ie g bO HM).mono ?_;rintro e wN ⟨rfl,X⟩;have HZ:=ag X;clear X);go_end0;exact⟨rfl,ss HZ⟩
theorem MC(hp:x.ae=7)(S':Wd)(hm:rD S g 6 8=some S'):Calls prog 107 #[bR F,I g,.agg #[I o.ai,I o.ch,I o.n,I o.v,.slice ca cn cc,B o.dG]] w (ee (To af F m w S')):=by
 have eM:=cA hx;have c3:=R.eu;have c8:=R.dR;obtain⟨aU,cm,aY,aZ⟩:=R.pB;have g2:=R.g hx 2 _ rfl;have g9:=R.g hx 9 _ rfl;rw[hp]at g2;have HX:=ag ((AB.iU R).alloc (.cells #[I o.ai,I o.ch,I o.n,I o.v,.slice ca cn cc,B o.dG] 49));obtain⟨HG,ie⟩:=dA hx aG;have HM:=ag hm;clear R hx hp aG hm;unfold bR;go_enter func107,ntmps107;go_wp2_with (go_at_call 99;refine(PS HX HM).mono ?_;rintro e wN ⟨rfl,X⟩;have HZ:=ag X;clear X);go_end0;exact⟨rfl,ss HZ⟩
theorem MD(hp:x.ae=9)(S':Wd)(hm:jZ S g o=some S'):Calls prog 107 #[bR F,I g,.agg #[I o.ai,I o.ch,I o.n,I o.v,.slice ca cn cc,B o.dG]] w (ee (To af F m w S')):=by
 have eM:=cA hx;have c3:=R.eu;have c8:=R.dR;obtain⟨aU,cm,aY,aZ⟩:=R.pB;have g2:=R.g hx 2 _ rfl;have g9:=R.g hx 9 _ rfl;rw[hp]at g2;have HX:=ag ((AB.iU R).alloc (.cells #[I o.ai,I o.ch,I o.n,I o.v,.slice ca cn cc,B o.dG] 49));obtain⟨HG,ie⟩:=dA hx aG;have HM:=ag hm;clear R hx hp aG hm;unfold bR;go_enter func107,ntmps107;go_wp2_with (go_at_call 166;refine(Qm HX ie g eM bO ca cn cc HM).mono ?_;rintro e wN ⟨rfl,X⟩;have HZ:=ag X;clear X);go_end0;exact⟨rfl,ss HZ⟩
theorem Jm(hp:x.ae=6)(S':Wd)(hm:Mach.take S g (2*o.ch-1) 7 8=some (S',true)):Calls prog 107 #[bR F,I g,.agg #[I o.ai,I o.ch,I o.n,I o.v,.slice ca cn cc,B o.dG]] w (ee (To af F m w S')):=by
 have eM:=cA hx;have c3:=R.eu;have c8:=R.dR;obtain⟨aU,cm,aY,aZ⟩:=R.pB;have g2:=R.g hx 2 _ rfl;have g9:=R.g hx 9 _ rfl;rw[hp]at g2;have HX:=ag ((AB.iU R).alloc (.cells #[I o.ai,I o.ch,I o.n,I o.v,.slice ca cn cc,B o.dG] 49));obtain⟨HG,ie⟩:=dA hx aG;have HM:=ag hm;clear R hx hp aG hm;unfold bR;go_enter func107,ntmps107;go_wp2_with (first|(go_at_call 164;refine(xk HX bO).mono ?_;rintro e wN ⟨rfl,X⟩;have HY:=ag X;clear X)|(go_at_call 96;refine(ot HY HM).mono ?_;rintro e wN ⟨rfl,X⟩;have HZ:=ag X;clear X));go_end0;exact⟨rfl,ss HZ⟩
theorem Jn(hp:x.ae=6)(S2:Wd)(x2:bI)(hm:Mach.take S g (2*o.ch-1) 7 8=some (S2,false))(kt:S2.gs[g]?=some x2):Calls prog 107 #[bR F,I g,.agg #[I o.ai,I o.ch,I o.n,I o.v,.slice ca cn cc,B o.dG]] w (ee fun w'=>To af F m w (S2.ay g {x2 with ae:=9}) w'):=by
 have eM:=cA hx;have c3:=R.eu;have c8:=R.dR;obtain⟨aU,cm,aY,aZ⟩:=R.pB;have g2:=R.g hx 2 _ rfl;have g9:=R.g hx 9 _ rfl;rw[hp]at g2;have HX:=ag ((AB.iU R).alloc (.cells #[I o.ai,I o.ch,I o.n,I o.v,.slice ca cn cc,B o.dG] 49));obtain⟨HG,ie⟩:=dA hx aG;obtain⟨HM,nU⟩:=dA hm kt;clear R hx hp aG hm kt;unfold bR;go_enter func107,ntmps107;go_wp2_with (first|(go_at_call 164;refine(xk HX bO).mono ?_;rintro e wN ⟨rfl,X⟩;have HY:=ag X;clear X)|(go_at_call 96;refine(ot HY HM).mono ?_;rintro e wN ⟨rfl,X⟩;have RN:=X.bj;have p2:=RN.g nU 2 _ rfl;have wW:=RN.frozen RN.aB.gs (g*25+2);have A0:=X.at_;have A1:=A0.g nU {x2 with ae:=9} (q:=2) (v:=I 9);have HA:=ag A1;clear A1;clear A0;have HZ:=ag X;clear X RN));go_end0;exact⟨rfl,m,HA⟩
theorem ME(hp:x.ae=8)(s:Nat)(hs:x.br=s)(S2 S3 S4:Wd)(v:Int)(x4:bI)(h2:fZ S s=some S2)(h3:ik S2 o.ch s=some (S3,v))(h4:Mach.serve S3 g s true=some S4)(vB:S4.gs[g]?=some x4):Calls prog 107 #[bR F,I g,.agg #[I o.ai,I o.ch,I o.n,I o.v,.slice ca cn cc,B o.dG]] w (ee fun w'=>To af F m w (S4.ay g {x4 with res:={aJ:=1,case:= -1,v:=v,ok:=true},ae:=16}) w'):=by
 have eM:=cA hx;have c3:=R.eu;have c8:=R.dR;obtain⟨aU,cm,aY,aZ⟩:=R.pB;have g2:=R.g hx 2 _ rfl;have g9:=R.g hx 9 _ rfl;rw[hp]at g2;have HX:=ag ((AB.iU R).alloc (.cells #[I o.ai,I o.ch,I o.n,I o.v,.slice ca cn cc,B o.dG] 49));obtain⟨HG,ie⟩:=dA hx aG;rw[hs]at g9;obtain⟨H2,H3,H4,Vc⟩:=ia h2 h3 h4 vB;have au2:=ag (aG.fZ h2);clear R hx hp aG h2 h3 h4 vB hs;unfold bR;go_enter func107,ntmps107;go_wp2_with (first|(go_at_call 150;refine(u7 HX H2).mono ?_;rintro e wN ⟨⟨bb,rfl⟩,X⟩;obtain⟨q0,q1,q2,q3,q4,q5⟩:=jD X.head;have tm:=ag X;clear X)|(go_at_call 165;refine(Gk (S:=S2) tm au2 bO H3).mono ?_;rintro e wN ⟨rfl,X⟩;have oh:=ag X;clear X)|(go_at_call 152;refine(vj (S:=S3) oh H4).mono ?_;rintro e wN ⟨rfl,mS,X⟩;have RN:=X.bj;have p2:=RN.g Vc 2 _ rfl;have wW:=RN.frozen RN.aB.gs (g*25+2);have Ip:=RN.g Vc 15 _ rfl;have Dm:=RN.frozen RN.aB.gs (g*25+15);have UZ:=RN.g Vc 16 _ rfl;have Fz:=RN.frozen RN.aB.gs (g*25+16);have U0:=RN.g Vc 17 _ rfl;have FA:=RN.frozen RN.aB.gs (g*25+17);have FB:=RN.g Vc 18 _ rfl;have FC:=RN.frozen RN.aB.gs (g*25+18);have p19:=RN.g Vc 19 _ rfl;have FD:=RN.frozen RN.aB.gs (g*25+19);have A0:=X.at_;have A1:=A0.res Vc {aJ:=1,case:= -1,v:=v,ok:=true};have A2:=A1.g (az Vc) {x4 with res:={aJ:=1,case:= -1,v:=v,ok:=true},ae:=16} (q:=2) (v:=I 16);rw[aA]at A2;have HA:=ag A2;clear A1 A2;clear A0;have HZ:=ag X;clear X RN));go_end0;exact⟨rfl,mS,HA⟩
theorem DV(hp:x.ae=5∨x.ae=6∨x.ae=7∨x.ae=8∨x.ae=9)(S':Wd)(hm:iE S g o=some S'):Calls prog 107 #[.pointer (some ⟨F.al,0,none⟩),I g,.agg #[I o.ai,I o.ch,I o.n,I o.v,.slice ca cn cc,B o.dG]] w (ee (To af F m w S')):=by
 unfold iE at hm;simp only[bW,hx,eN]at hm;by_cases h5:x.ae=5
 ·rw[aF h5]at hm;exact MB R aG g x hx o bO ca cn cc h5 _ hm
 rw[aE h5]at hm;by_cases h6:x.ae=6
 ·rw[aF h6]at hm;simp only[cI]at hm;obtain⟨⟨S2,ok⟩,h2,hm⟩:=hm
  cases ok with
  |true=>
   simp only[dt,oZ]at hm;subst hm;exact Jm R aG g x hx o bO ca cn cc h6 _ h2
  |false=>
   simp only[nW,dF]at hm;obtain⟨x2,kt,rfl⟩:=Nb hm;exact Jn R aG g x hx o bO ca cn cc h6 _ _ h2 kt
 rw[aE h6]at hm;by_cases h7:x.ae=7
 ·rw[aF h7]at hm;exact MC R aG g x hx o bO ca cn cc h7 _ hm
 rw[aE h7]at hm;by_cases h8:x.ae=8
 ·rw[aF h8]at hm;unfold pZ fL at hm;simp only[bW,hx,eN,cI]at hm;obtain⟨s,hs,S2,h2,⟨S3,v⟩,h3,S4,h4,hm⟩:=hm
  cases vB:S4.gs[g]? with
  |none=>simp[vB]at hm
  |some x4=>
   simp only[vB,km,oZ]at hm;subst hm;exact ME R aG g x hx o bO ca cn cc h8 s (du hs) S2 S3 S4 v x4 h2 h3 h4 vB
 rw[aE h8]at hm;exact MD R aG g x hx o bO ca cn cc oX _ hm
end
end
theorem D8(o:cu)(a:Option Addr)(c:Nat)(w:World)(h:gW w a o.cases):Calls prog 42 #[.agg #[I o.ai,I o.ch,I o.n,I o.v,.slice a o.cases.length c,B o.dG]] w (eL (.bool (yF o)) (Below w.heap.size w)):=by
 cases hr:mI o with
 |false=>exact Bb o a c w _ rfl hr
 |true=>
  have hk:1≤o.ai∧o.ai≤9:=br8
  by_cases h9:o.ai=9
  ·by_cases hc:o.ch=0
   ·by_cases hv:o.v=0
    ·by_cases h0:o.n=0
     ·exact Mk o h9 a c w h _ rfl hr hc hv h0
     ·exact aJ4 o h9 a c w _ rfl hr (.inr (.inr h0))
    ·exact aJ4 o h9 a c w _ rfl hr (.inr (.inl hv))
   ·exact aJ4 o h9 a c w _ rfl hr (.inl hc)
  ·have:o.ai=1∨o.ai=2∨o.ai=3∨o.ai=4∨o.ai=5∨o.ai=6∨o.ai=7∨o.ai=8:=by omega
   exact Ml o this a c w _ rfl hr
def D9(l:List cu):Bool:=l.all yF&&decide (l.length≤16)
theorem Ac(p:List (List cu)):im p=(p.all D9&&decide (1≤p.length)&&decide (p.length≤8)):=rfl
theorem Ad(p:List (List cu))(n:Nat)(hn:n=p.length)(a:Option Addr)(c:Nat)(w:World)(h:aH1 w a p):Calls prog 22 #[.slice a n c] w (eL (.bool (im p)) (Below w.heap.size w)):=by
 have hb:n≤9223372036854775807:=by rw[hn];exact h.1
 obtain⟨H,HN⟩:=dA h hn;clear h hn;go_enter func22,ntmps22;go_wp2;go_loopw [9] (fun q wr=>∃i:Nat,q=.int .i64 i∧i≤n∧Hid ((p.take i).all D9=true)∧Hid (Below w.heap.size w wr)) (fun q _=>n-(intOf q).toNat)
 case atStart=>exact⟨0,rfl,oX,(by simp:(p.take 0).all D9=true),fp _ _⟩
 case round=>
  obtain⟨i,rfl,hi,HA,HB⟩:=hrel;by_cases dD:i<n
  ·obtain⟨os,No⟩:∃os,p[i]?=some os:=⟨_,fv bn0⟩;obtain⟨b,off,r,c1,rfl,oF,rS⟩:=(H.out.below HB cG).2 i os No;obtain⟨m,hm⟩:=dC (os.length);rw[←hm]at oF;have ny:m≤9223372036854775807:=by rw[hm];exact rS.1
   obtain⟨HO,HM,HOS⟩:=ij rS hm No;obtain⟨wo,VB⟩:=dC (wr);subst VB;clear rS hm No;go_wp2;go_loopw [15] (fun q wr=>∃j:Nat,q=.int .i64 j∧j≤m∧Hid ((os.take j).all yF=true)∧Hid (Below wo.heap.size wo wr)) (fun q _=>m-(intOf q).toNat)
   case atStart=>exact⟨0,rfl,oX,(by simp:(os.take 0).all yF=true),fp _ _⟩
   case round=>
    obtain⟨j,rfl,hj,nx,mq⟩:=hrel;have BK:Hid (Below w.heap.size w wr):=HB.out.trans (mq.out.mono HB.out.size);by_cases rT:j<m
    ·obtain⟨o,ho⟩:∃o,os[j]?=some o:=⟨_,fv bn2⟩;obtain⟨b2,o2,x,cx,rfl,e0,e1,e2,e3,e4,e5,fa,_⟩:=(HO.out.below mq cG).2 j o ho;have HW:Hid (∀W,W.heap=(wr.alloc (eD o x cx)).heap→Calls prog 42 #[.agg #[I o.ai,I o.ch,I o.n,I o.v,.slice x o.cases.length cx,B o.dG]] W fun e w'=>e=.returned (.bool (yF o))∧Below W.heap.size W w'):=fun W hW=>D8 o x cx W (fa.fU fun ad v hv=>by rw[kZ (w:=wr) (by rw[hW];exact gf wr _ _ (xo _ _ hv))];exact hv)
     have Yf:=ag ho;clear ho fa
     cases Pu:yF o with
     |true=>
      rw[Pu]at HW;have vC:Hid ((os.take (j+1)).all yF=true):=(by show _=_;rw[List.take_succ,Yf.out,List.all_append,nx.out];simp[Pu]);go_wp2_with (go_at_call 42;refine(HW _ rfl).mono ?_;rintro e w3 ⟨rfl,hbb⟩;have tK:Hid (Below wo.heap.size wo w3):=(mq.out.alloc mq.out.size _).trans (hbb.mono (by simp;have:=mq.out.size;omega));clear hbb);go_roundw
      case rel=>exact⟨j+1,bl2,oX,vC,tK⟩
      case measure=>simp[intOf];omega
     |false=>
      rw[Pu]at HW
      have HF:Hid (im p=false):=by
       show _=_;rw[Ac,show p.all D9=false from ?_]
       ·rfl
       ·rw[List.all_eq_false];refine⟨os,lf HOS,?_⟩;unfold D9;rw[show os.all yF=false from List.all_eq_false.2 ⟨o,lf Yf.out,by simp[Pu]⟩];simp
      go_wp2_with (go_at_call 42;refine(HW _ rfl).mono ?_;rintro e w3 ⟨rfl,hbb⟩;have tK:Hid (Below w.heap.size w w3):=(BK.out.alloc BK.out.size _).trans (hbb.mono (by simp;have:=BK.out.size;omega));clear hbb);go_ret;exact⟨by rw[HF.out];rfl,tK⟩
    ·obtain rfl:j=m:=by omega
     have uY:os.all yF=true:=(by have:=nx.out;rw[HM.out,List.take_length]at this;exact this);by_cases SO:j≤16
     ·have vC:Hid ((p.take (i+1)).all D9=true):=by
       show _=_;rw[List.take_succ,HOS.out,List.all_append,HA.out];simp[D9,uY,←HM.out,SO]
      have hd:decide (16<(j:Int))=false:=bi8;clear uY;go_wp2;go_roundw
      case rel=>exact⟨i+1,bl2,oX,vC,BK⟩
      case measure=>simp[intOf];omega
     ·have HF:Hid (im p=false):=by
       show _=_;rw[Ac,show p.all D9=false from ?_]
       ·rfl
       ·rw[List.all_eq_false];refine⟨os,lf HOS,?_⟩;unfold D9;rw[←HM.out];simp[SO]
      have hd:decide (16<(j:Int))=true:=bi8;clear uY;go_wp2;go_ret;exact⟨by rw[HF.out];rfl,BK⟩
  ·obtain rfl:i=n:=by omega
   have HE:Hid (im p=(decide (1≤i)&&decide (i≤8))):=(by show _=_;have:=HA.out;rw[HN.out,List.take_length]at this;rw[Ac,this,←HN.out];simp);by_cases h1:1≤i
   ·have hd:decide ((1:Int)≤i)=true:=bi8;go_wp2;go_ret;refine⟨?_,HB⟩;rw[HE.out];simp[h1];try omega
   ·have hd:decide ((1:Int)≤i)=false:=bi8;go_wp2;go_ret;refine⟨?_,HB⟩;rw[HE.out];simp[h1]
theorem aO0(w:World):Calls prog 71 #[I 9] w (eL (.bool false) fun w'=>w=w'):=by
 go_enter func71,ntmps71;exact aW5
section
variable(b c:Nat)(w:World)(h:w.cell? ⟨b,0,none⟩=some (I 9))
include b c w h
theorem FR:Calls prog 130 #[.slice (some ⟨b,0,none⟩) 1 c,.func (.func 71) #[] #[]] w (eL (I (-1)) fun w'=>w=w'):=by
 have HI:=ag aO0;go_enter func130,ntmps130;go_wp2;go_loopw [4,5,8] (fun r v i wr=>∃k:Nat,i=.int .i64 k∧k≤1∧wr=w) (fun r v i _=>1-(intOf i).toNat)
 case atStart=>exact⟨0,rfl,oX,rfl⟩
 case round=>
  obtain⟨k,rfl,hk,rfl⟩:=hrel;by_cases dD:k<1
  ·obtain rfl:k=0:=by omega
   go_wp2_with (go_at_call 71;refine(HI _).mono ?_;rintro e w2 ⟨rfl,rfl⟩);exact bg5
  ·obtain rfl:k=1:=by omega
   exact aW5
theorem zl:Calls prog 72 #[.slice (some ⟨b,0,none⟩) 1 c,.func (.func 71) #[] #[]] w (eL (.bool false) fun w'=>w=w'):=by
 have HI:=ag (FR b c w h);clear h;go_enter func72,ntmps72;go_wp2_with (go_at_call 130;refine HI.out.mono ?_;rintro e w2 ⟨rfl,rfl⟩);go_ret;exact⟨rfl,rfl⟩
theorem FT:Calls prog 38 #[.slice (some ⟨b,0,none⟩) 1 c,I 14] w (oV fun w'=>w=w'):=by
 have HI:=ag (zl b c w h);clear h;go_enter func38,ntmps38;go_wp2_with (go_at_call 72;refine HI.out.mono ?_;rintro e w2 ⟨rfl,rfl⟩);go_ret;exact⟨rfl,rfl⟩
end
def WD(o:cu):List Value:=[I o.ai,I o.ch,I o.n,I o.v,.slice none 0 0,B o.dG]
def so:List cu→List Value
 | []=>[]
 |o::l=>WD o++so l
structure Z8(w wr:World)(v1 v2:Value)(l1 l2:List cu)(aV:Bool→Option Nat)(cap:Bool→Nat)(ct:Bool→List Value):Prop where
 own:cN w.heap.size w wr aV (fun _=>some (49,6)) cap ct
 h1:v1=nG (aV true) l1.length (cap true)
 c1:ct true=so l1
 h2:v2=nG (aV false) l2.length (cap false)
 c2:ct false=so l2
def ir(w wr:World)(v1 v2:Value)(l1 l2:List cu):Prop:=∃aV cap ct,Z8 w wr v1 v2 l1 l2 aV cap ct
theorem zm:∀l:List cu,(so l).length=l.length*6
 | []=>rfl
 |o::l=>by unfold so;rw[py,zm l,sV,show(WD o).length=6 from rfl];omega
theorem wz:∀(l:List cu) (o:cu),so (l++[o])=so l++WD o
 | [],o=>by simp[so]
 |a::l,o=>by rw[sY];unfold so;rw[wz l o,List.append_assoc]
section
variable{w wr w':World}{v1 v2:Value}{l1 l2:List cu}
theorem ir.start:ir w w (.slice none 0 0) (.slice none 0 0) [] []:=⟨_,_,_,cN.nil _ _ cG _,rfl,rfl,rfl,rfl⟩
theorem ir.alloc(H:ir w wr v1 v2 l1 l2)(o:Obj):ir w (wr.alloc o) v1 v2 l1 l2:=by
 obtain⟨aV,cap,ct,H⟩:=H;exact⟨aV,cap,ct,{H with own:=H.own.alloc o}⟩
section
variable(H:ir w wr v1 v2 l1 l2)
include H
theorem ir.Z9:wr.ownsRow w.heap.size 49 6 v1 l1.length (so l1):=by
 obtain⟨aV,cap,ct,H⟩:=H;rw[H.h1,←H.c1];exact H.own.owns (k:=true) (p:=(49,6)) rfl dX (by rw[H.c1];exact zm l1)
theorem ir.aa0:wr.ownsRow w.heap.size 49 6 v2 l2.length (so l2):=by
 obtain⟨aV,cap,ct,H⟩:=H;rw[H.h2,←H.c2];exact H.own.owns (k:=false) (p:=(49,6)) rfl dX (by rw[H.c2];exact zm l2)
theorem ir.lo:w.heap.size≤wr.heap.size∧Below w.heap.size w wr:=by
 obtain⟨aV,cap,ct,H⟩:=H;exact⟨H.own.tL,H.own.below⟩
theorem ir.U6{o:cu}{g cp n:Nat}(hn:n=l1.length+1)(hg:wr.grownBy w' v1.ownBlock)(hown:w'.ownsRow w.heap.size 49 6 (.slice (some ⟨g,0,none⟩) n cp) n (so l1++WD o))(gp:v1.ownBlock=some g∨wr.heap.size≤g):ir w w' (.slice (some ⟨g,0,none⟩) n cp) v2 (l1++[o]) l2:=by
 obtain⟨aV,cap,ct,H⟩:=H;rw[H.h1,gV]at hg gp;have O:=H.own.row (r:=true) (p:=(49,6)) (fun q h=>bq4) hg hown gp;refine⟨_,_,_,O,?_,?_,?_,?_⟩
 ·rw[bq,bq,hn,py];rfl
 ·rw[bq,wz]
 ·rw[aD _ _ dX,aD _ _ dX];exact H.h2
 ·rw[aD _ _ dX];exact H.c2
theorem ir.U7{o:cu}{g cp n:Nat}(hn:n=l2.length+1)(hg:wr.grownBy w' v2.ownBlock)(hown:w'.ownsRow w.heap.size 49 6 (.slice (some ⟨g,0,none⟩) n cp) n (so l2++WD o))(gp:v2.ownBlock=some g∨wr.heap.size≤g):ir w w' v1 (.slice (some ⟨g,0,none⟩) n cp) l1 (l2++[o]):=by
 obtain⟨aV,cap,ct,H⟩:=H;rw[H.h2,gV]at hg gp;have O:=H.own.row (r:=false) (p:=(49,6)) (fun q h=>bq4) hg hown gp;refine⟨_,_,_,O,?_,?_,?_,?_⟩
 ·rw[aD _ _ dX,aD _ _ dX];exact H.h1
 ·rw[aD _ _ dX];exact H.c1
 ·rw[bq,bq,hn,py];rfl
 ·rw[bq,wz]
end
theorem FU:∀(l:List cu) (j:Nat) (o:cu),l[j]?=some o→∀t v,(WD o)[t]?=some v→(so l)[j*6+t]?=some v
 | [],j,o,h,_,_,_=>bk0
 |a::l,0,o,h,t,v,hv=>by simp at h;subst h;unfold so;rw[Ev (by have:=cA hv;omega),Nat.zero_mul,Nat.zero_add];exact hv
 |a::l,j+1,o,h,t,v,hv=>by unfold so;rw[Ew (by show 6≤_;omega),show(WD a).length=6 from rfl,show(j+1)*6+t-6=j*6+t by omega];exact FU l j o bj3 t v hv
theorem PC{b n c:Nat}{l:List cu}(hl:l.length≤100)(Dj:∀o∈l,o.cases=[])(hI:∀o∈l,pW o.ai∧pW o.ch∧pW o.n∧pW o.v)(hc:∀j u,(so l)[j]?=some u→w.cell? ⟨b,j,none⟩=some u):kC w (some ⟨b,0,none⟩) l:=by
 refine⟨oX,fun j o ho=>⟨b,0,none,0,rfl,?_⟩⟩;have hm:=lf ho;obtain⟨i1,i2,i3,i4⟩:=hI o hm;have h0:=Dj o hm;have hg:=fun t v hv=>hc _ _ (FU l j o ho t v hv)
 simp only[Nat.zero_add];refine⟨hg 0 _ rfl,hg 1 _ rfl,hg 2 _ rfl,hg 3 _ rfl,by rw[h0];exact hg 4 _ rfl,hg 5 _ rfl,⟨by rw[h0];decide,fun k c hk=>by rw[h0]at hk;cases hk⟩,i1,i2,i3,i4⟩
end
def FV:List cu:=[{ai:=2,ch:=1,v:=9},{ai:=6,ch:=1}]
def FW:List cu:=[{ai:=3,ch:=1},{ai:=3,ch:=1}]
theorem zo(b:Nat)(w:World)(h:w.cell? ⟨b,0,none⟩=some (I 9)):Calls prog 19 #[.slice (some ⟨b,0,none⟩) 1 1] w fun e w'=>∃a c,e=.returned (.slice a 2 c)∧aH1 w' a [FV,FW]∧Below w.heap.size w w':=by
 obtain⟨i0,hi,fV,gF,gG⟩:=info_parts Oe;have HR:=ag (FT b 1 w h);have HC:=ag h
 have dD:b<w.heap.size:=by
  exact bd4
 have XO:=ag dD;clear h dD;go_enter func19,ntmps19;go_wp2_with (go_at_call 38;refine HR.out.mono ?_;rintro e w2 ⟨rfl,rfl⟩);have h0:Hid (ir w w (.slice none 0 0) (.slice none 0 0) (FV.take 0) (FW.take 0)):=ir.start;go_loopw [3,4,12] (fun s r i wr=>∃(k:Nat) (a1:Option Addr) (q1:Nat) (a2:Option Addr) (q2:Nat),s=.slice a1 k q1∧r=.slice a2 k q2∧i=.int .i64 k∧k≤1∧Hid (ir w wr (.slice a1 k q1) (.slice a2 k q2) (FV.take k) (FW.take k))) (fun s r i _=>1-(intOf i).toNat)
 case atStart=>exact⟨0,none,0,none,0,rfl,rfl,rfl,oX,h0⟩
 case round=>
  clear h0;obtain⟨k,a1,q1,a2,q2,rfl,rfl,rfl,hk,HP⟩:=hrel;have qq:=HP.out.lo.1;by_cases dD:k<1
  ·obtain rfl:k=0:=by omega
   have c0:wr.cell? ⟨b,0,none⟩=some (I 9):=cw HP.out.lo.2 cG _ _ HC;have HO:=ag HP.out.Z9;go_upto_region 7 with fail
   go_wp2_with (first
    |(at_builtin;go_loud (refine gY (us:=#[I 2,I 1,I 0,I 9,.slice none 0 0,B false]) (w2:=wr) rfl (.tmp 16) (.tmp 19) 50 rfl underlying50 hi fV gF gG rfl dX dX rfl rfl bi9 (.slice a1 0 q1) 0 _ rfl HO wr.heap.size rfl rfl oX qq ?_);intro g cp w3 hown hgr gp;have Eo:=ag ((HP.out.alloc (.cells #[I 2,I 1,I 0,I 9,.slice none 0 0,B false] 49)).U6 (o:={ai:=2,ch:=1,v:=9}) rfl hgr hown gp);have Iq:=ag Eo.out.aa0;have PD:=Eo.out.lo.1;clear hown hgr gp HO)
    |(at_builtin;go_loud (refine gY (us:=#[I 3,I 1,I 0,I 0,.slice none 0 0,B false]) (w2:=w3) rfl (.tmp 21) (.tmp 23) 50 rfl underlying50 hi fV gF gG rfl dX dX rfl rfl bi9 (.slice a2 0 q2) 0 _ rfl Iq w3.heap.size rfl rfl oX PD ?_);intro g2 On w4 hown hgr gp;have G6:=ag ((Eo.out.alloc (.cells #[I 3,I 1,I 0,I 0,.slice none 0 0,B false] 49)).U7 (o:={ai:=3,ch:=1}) rfl hgr hown gp);clear hown hgr gp Iq))
   clear Eo PD;go_roundw
   case rel=>exact⟨1,_,_,_,_,rfl,rfl,rfl,oX,G6⟩
   case measure=>simp[intOf]
  ·obtain rfl:k=1:=by omega
   have HO:=ag HP.out.Z9
   go_wp2_with (first
    |(at_builtin;go_loud (refine gY (us:=#[I 6,I 1,I 0,I 0,.slice none 0 0,B false]) (w2:=wr) rfl (.tmp 26) (.tmp 28) 50 rfl underlying50 hi fV gF gG rfl dX dX rfl rfl bi9 (.slice a1 1 q1) 1 _ rfl HO wr.heap.size rfl rfl oX qq ?_);intro g cp w3 hown hgr gp;have Eo:=ag ((HP.out.alloc (.cells #[I 6,I 1,I 0,I 0,.slice none 0 0,B false] 49)).U6 (o:={ai:=6,ch:=1}) rfl hgr hown gp);have Iq:=ag Eo.out.aa0;have PD:=Eo.out.lo.1;clear hown hgr gp HO)
    |(at_builtin;go_loud (refine gY (us:=#[I 3,I 1,I 0,I 0,.slice none 0 0,B false]) (w2:=w3) rfl (.tmp 30) (.tmp 32) 50 rfl underlying50 hi fV gF gG rfl dX dX rfl rfl bi9 (.slice a2 1 q2) 1 _ rfl Iq w3.heap.size rfl rfl oX PD ?_);intro g2 On w4 hown hgr gp;have G6:=ag ((Eo.out.alloc (.cells #[I 3,I 1,I 0,I 0,.slice none 0 0,B false] 49)).U7 (o:={ai:=3,ch:=1}) rfl hgr hown gp);clear hown hgr gp Iq))
   clear Eo PD;go_ret;have HQ:=G6.out.alloc (.cells #[.slice (some ⟨g,0,none⟩) 2 cp,.slice (some ⟨g2,0,none⟩) 2 On] 50);obtain⟨aV,cap,ct,Q⟩:=HQ;have e1:=Q.h1;have e2:=Q.h2
   have b1:aV true=some g:=by
    cases hb:aV true with
    |none=>rw[hb]at e1;simp[nG]at e1
    |some z=>rw[hb]at e1;simp[nG]at e1;rw[e1.1]
   have b2:aV false=some g2:=by
    cases hb:aV false with
    |none=>rw[hb]at e2;simp[nG]at e2
    |some z=>rw[hb]at e2;simp[nG]at e2;rw[e2.1]
   refine⟨_,_,rfl,⟨dX,fun i os ho=>?_⟩,Q.own.below⟩;have Mi:∀j,(w4.alloc (.cells #[.slice (some ⟨g,0,none⟩) 2 cp,.slice (some ⟨g2,0,none⟩) 2 On] 50)).cell? ⟨w4.heap.size,j,none⟩=(#[Value.slice (some ⟨g,0,none⟩) 2 cp,.slice (some ⟨g2,0,none⟩) 2 On]:Array Value)[j]?:=fun j=>cr _ _ _ _ _ _ (dP _ _)
   match i,ho with
   |0,ho=>
    simp at ho;subst ho;refine⟨_,0,some ⟨g,0,none⟩,cp,rfl,Mi 0,PC (n:=0) (c:=0) dX (fun o ho=>?_) (fun o ho=>?_) (fun j u hu=>Q.own.cell b1 (by rw[Q.c1];exact hu))⟩
    ·simp[FV]at ho;rcases ho with rfl|rfl<;>rfl
    ·simp[FV]at ho;rcases ho with rfl|rfl<;>exact⟨bl6,bl6,bl6,bl6⟩
   |1,ho=>
    simp at ho;subst ho;refine⟨_,0,some ⟨g2,0,none⟩,On,rfl,Mi 1,PC (n:=0) (c:=0) dX (fun o ho=>?_) (fun o ho=>?_) (fun j u hu=>Q.own.cell b2 (by rw[Q.c2];exact hu))⟩
    ·simp[FW]at ho;subst ho;rfl
    ·simp[FW]at ho;subst ho;exact⟨bl6,bl6,bl6,bl6⟩
   |i+2,ho=>simp at ho
end Go.Proofs.YtadifmnmfnihdaaGreat
