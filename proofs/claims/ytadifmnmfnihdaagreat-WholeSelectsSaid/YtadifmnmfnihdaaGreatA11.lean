import Derived.Test.YtadifmnmfnihdaaGreatA03
import Derived.Test.YtadifmnmfnihdaaGreatA05
import Derived.Test.YtadifmnmfnihdaaGreatA08
import Derived.Test.YtadifmnmfnihdaaGreatA09
import Derived.Test.YtadifmnmfnihdaaGreatA10
set_option linter.all false
set_option maxRecDepth 100000
set_option maxHeartbeats 40000000
namespace Go.Proofs.YtadifmnmfnihdaaGreat
open Go.RowKit Mach Go.Proofs.Tryz
section
variable{af:Nat}{F:Fx}{w w0 w':World}{m m0:Mem}{S:Wd}
theorem At.Rw(A:At af F m0 w0 m w S){j:Nat}{x:gn}(hx:S.ah[j]?=some x)(y:gn):At af F m0 w0 m (w.setCells F.ah (j*7) [B y.cK,I y.g,I y.ch,I y.case,B y.cF,I y.v,B y.done]) (S.cJ j y):=by
 have g1:∀{T:Wd} {a b:gn},T.ah[j]?=some a→(T.cJ j b).ah[j]?=some b:=fun h=>NG h
 have s2:∀{T:Wd} {a b:gn},(T.cJ j a).cJ j b=T.cJ j b:=by intro T a b;simp[Wd.cJ,my]
 have A0:=A.s hx {x with cK:=y.cK} (q:=0) (v:=B y.cK) (by omega) rfl;have A1:=A0.s (g1 hx) {x with cK:=y.cK,g:=y.g} (q:=1) (v:=I y.g) (by omega) rfl;have A2:=A1.s (g1 (g1 hx)) {x with cK:=y.cK,g:=y.g,ch:=y.ch} (q:=2) (v:=I y.ch) (by omega) rfl;have A3:=A2.s (g1 (g1 (g1 hx))) {x with cK:=y.cK,g:=y.g,ch:=y.ch,case:=y.case} (q:=3) (v:=I y.case) (by omega) rfl;have A4:=A3.s (g1 (g1 (g1 (g1 hx)))) {x with cK:=y.cK,g:=y.g,ch:=y.ch,case:=y.case,cF:=y.cF} (q:=4) (v:=B y.cF) (by omega) rfl;have A5:=A4.s (g1 (g1 (g1 (g1 (g1 hx))))) {x with cK:=y.cK,g:=y.g,ch:=y.ch,case:=y.case,cF:=y.cF,v:=y.v} (q:=5) (v:=I y.v) (by omega) rfl;have A6:=A5.s (g1 (g1 (g1 (g1 (g1 (g1 hx)))))) y (q:=6) (v:=B y.done) (by omega) rfl;simp only[s2]at A6;have e:w.setCells F.ah (j*7) [B y.cK,I y.g,I y.ch,I y.case,B y.cF,I y.v,B y.done]=((((((w.setCell ⟨F.ah,j*7+0,none⟩ (B y.cK)).setCell ⟨F.ah,j*7+1,none⟩ (I y.g)).setCell ⟨F.ah,j*7+2,none⟩ (I y.ch)).setCell ⟨F.ah,j*7+3,none⟩ (I y.case)).setCell ⟨F.ah,j*7+4,none⟩ (B y.cF)).setCell ⟨F.ah,j*7+5,none⟩ (I y.v)).setCell ⟨F.ah,j*7+6,none⟩ (B y.done):=by simp only[World.setCells,Nat.add_assoc,Nat.reduceAdd,Nat.add_zero]
 rw[e];exact A6
theorem At.res(A:At af F m0 w0 m w S){j:Nat}{x:bI}(hx:S.gs[j]?=some x)(y:nP):At af F m0 w0 m (((((w.setCell ⟨F.gs,j*25+15,none⟩ (I y.aJ)).setCell ⟨F.gs,j*25+16,none⟩ (I y.case)).setCell ⟨F.gs,j*25+17,none⟩ (I y.v)).setCell ⟨F.gs,j*25+18,none⟩ (B y.ok)).setCell ⟨F.gs,j*25+19,none⟩ (I y.n)) (S.ay j {x with res:=y}):=by
 have A0:=A.g hx {x with res:={x.res with aJ:=y.aJ}} (q:=15) (v:=I y.aJ);have A1:=A0.g (az hx) {x with res:={x.res with aJ:=y.aJ,case:=y.case}} (q:=16) (v:=I y.case);rw[aA]at A1;have A2:=A1.g (az hx) {x with res:={x.res with aJ:=y.aJ,case:=y.case,v:=y.v}} (q:=17) (v:=I y.v);rw[aA]at A2;have A3:=A2.g (az hx) {x with res:={x.res with aJ:=y.aJ,case:=y.case,v:=y.v,ok:=y.ok}} (q:=18) (v:=B y.ok);rw[aA]at A3;have A4:=A3.g (az hx) {x with res:=y} (q:=19) (v:=I y.n);rw[aA]at A4;exact A4
theorem BW(R:bz af F w m S){j:Nat}{x:gn}(hx:S.ah[j]?=some x):∀q,q<7→(w.cell? ⟨F.ah,j*7+q,none⟩).isSome=true:=fun q hq=>by
 obtain⟨v,hv⟩:∃v,(mg j x)[q]?=some v:=⟨_,fv (by show q<7;exact hq)⟩;rw[R.s hx q v hv];rfl
theorem SM(A:At af F m0 w0 m w S){g:Nat}{l:Int}{S':Wd}(hm:Mach.lock S g l=some S')(hc:(dH S g).cases.length≤1000)(hx:∃x,S.gs[g]?=some x):Calls prog 155 #[bR F,I g,I l] w (ee fun w'=>At af F m0 w0 m w' S'):=
 (LA A.bj g l S' hm hc hx).mono fun e w' ⟨h1,h2⟩=>⟨h1,A.cont h2⟩
theorem C9(A:At af F m0 w0 m w S)(l who:Int):Calls prog 156 #[.pointer (some ⟨F.dY,0,none⟩),I l,I who] w fun e w'=>(∃b,e=.returned (.bool b))∧At af F m0 w0 m w' (free S l who):=
 (Lz A.bj l who).mono fun e w' ⟨h1,h2⟩=>⟨⟨_,h1⟩,A.cont h2⟩
theorem Kl(A:At af F m0 w0 m w S)(g:Int):Calls prog 157 #[.pointer (some ⟨F.dB,0,none⟩),I g] w fun e w'=>(∃b,e=.returned (.bool b))∧At af F m0 w0 m w' {S with ax:=(tD S.ax g).1}:=
 (LC A.bj g).mono fun e w' ⟨h1,h2⟩=>⟨⟨_,h1⟩,A.cont h2⟩
theorem OO(A:At af F m0 w0 m w S)(g:Int):Calls prog 160 #[.pointer (some ⟨F.dB,0,none⟩),I g] w fun e w'=>(∃b,e=.returned (.bool b))∧At af F m0 w0 m w' {S with ax:=(ready S.ax g).1}:=
 (Ik A.bj g).mono fun e w' ⟨h1,h2⟩=>⟨⟨_,h1⟩,A.cont h2⟩
theorem OP(A:At af F m0 w0 m w S){g:Nat}{S':Wd}(hm:dk S g=some S'):Calls prog 159 #[bR F,I g] w (ee fun w'=>At af F m0 w0 m w' S'):=
 (uN A.bj g S' hm).mono fun e w' ⟨h1,h2⟩=>⟨h1,A.cont h2⟩
theorem OQ(A:At af F m0 w0 m w S){g s:Nat}{d:Bool}{S':Wd}(hm:Mach.serve S g s d=some S'):Calls prog 152 #[bR F,I g,I s,.bool d] w (ee fun w'=>∃m',At af F m0 w0 m' w' S'):=
 (yT A.bj g s d S' hm).mono fun e w' ⟨h1,m',h2⟩=>⟨h1,m',A.cont h2⟩
theorem Wc(A:At af F m0 w0 m w S){g:Nat}{lost Eh:Int}{S':Wd}(hm:rD S g lost Eh=some S'):Calls prog 99 #[bR F,I g,I lost,I Eh] w (ee fun w'=>At af F m0 w0 m w' S'):=
 (Ff A.bj g lost Eh S' hm).mono fun e w' ⟨h1,h2⟩=>⟨h1,A.cont h2⟩
theorem Fk(A:At af F m0 w0 m w S)(ok:S.ar.Ok){g:Nat}(x:Nat)(hg:g<S.ar.aC.length):Calls prog 158 #[.pointer (some ⟨F.ar,0,none⟩),I g,I x] w fun e w'=>(∃b,e=.returned (.bool b))∧∃m',At af F m0 w0 m' w' {S with ar:=(S.ar.nh g x).1}:=by
 obtain⟨c,hc⟩:∃c,S.ar.aC[g]?=some c:=⟨_,fv hg⟩
 cases hl:S.ar.cK x with
 |true=>exact(IA A.bj ok g x c hc hl).mono fun e w' ⟨h1,m',h2⟩=>⟨⟨_,h1⟩,m',A.cont h2⟩
 |false=>
  have he:(S.ar.nh g x).1=S.ar:=by unfold fS.nh;simp only[hc,hl];simp
  rw[he];exact(OL A.bj ok g x hg hl).mono fun e w' ⟨h1,h2⟩=>⟨⟨_,h1⟩,m,A.cont h2⟩
theorem qk{S S':Wd}{k x:Int}(h:lh S k x=some S'):∃q b,S.aw.push k x=some (q,b)∧S'={S with aw:=q}:=by
 unfold lh at h
 cases hq:S.aw.push k x with
 |none=>rw[hq]at h;cases h
 |some q=>rw[hq]at h;cases h;exact⟨q.1,q.2,rfl,rfl⟩
theorem yZ(A:At af F m0 w0 m w S){k x:Int}{S':Wd}(h:lh S k x=some S'):Calls prog 103 #[.pointer (some ⟨F.aw,0,none⟩),I k,I x] w fun e w'=>(∃b,e=.returned (.bool b))∧At af F m0 w0 m w' S':=by
 obtain⟨q,b,hq,rfl⟩:=qk h;exact(Lp A.bj k x q b hq).mono fun e w' ⟨h1,h2⟩=>⟨⟨b,h1⟩,A.cont h2⟩
theorem ql{B B' e size n:Nat}{v:Value}{xs:List Value}(h:w.ownsRow B e size v n xs)(hB:B'≤B):w.ownsRow B' e size v n xs:=by
 obtain⟨h1,h2⟩:=h;refine⟨h1,?_⟩;rcases h2 with h2|⟨g,cap,cur,h3,h4,h5⟩
 ·exact .inl h2
 ·exact .inr ⟨g,cap,cur,h3,by omega,h5⟩
theorem jo{b:Nat}{v0 v1 v2 v3 v4 v5 v6 v7:Value}{t:TypeId}{fr:Nat×Nat}(h:w.heap[b]?=some (.cells #[v0,v1,v2,v3,v4,v5,v6,v7] t fr)):w.cell? ⟨b,0,none⟩=some v0∧w.cell? ⟨b,1,none⟩=some v1∧w.cell? ⟨b,2,none⟩=some v2∧w.cell? ⟨b,3,none⟩=some v3∧w.cell? ⟨b,4,none⟩=some v4∧w.cell? ⟨b,5,none⟩=some v5∧w.cell? ⟨b,6,none⟩=some v6∧w.cell? ⟨b,7,none⟩=some v7:=by
 refine⟨?_,?_,?_,?_,?_,?_,?_,?_⟩<;>(rw[cr w b _ _ _ _ h];rfl)
theorem jD{b:Nat}{v0 v1 v2 v3 v4 v5:Value}{t:TypeId}{fr:Nat×Nat}(h:w.heap[b]?=some (.cells #[v0,v1,v2,v3,v4,v5] t fr)):w.cell? ⟨b,0,none⟩=some v0∧w.cell? ⟨b,1,none⟩=some v1∧w.cell? ⟨b,2,none⟩=some v2∧w.cell? ⟨b,3,none⟩=some v3∧w.cell? ⟨b,4,none⟩=some v4∧w.cell? ⟨b,5,none⟩=some v5:=by
 refine⟨?_,?_,?_,?_,?_,?_⟩<;>(rw[cr w b _ _ _ _ h];rfl)
theorem ao9{b:Nat}{v0 v1 v2 v3 v4 v5 v6:Value}{t:TypeId}{fr:Nat×Nat}(h:w.heap[b]?=some (.cells #[v0,v1,v2,v3,v4,v5,v6] t fr)):w.cell? ⟨b,0,none⟩=some v0∧w.cell? ⟨b,1,none⟩=some v1∧w.cell? ⟨b,2,none⟩=some v2∧w.cell? ⟨b,3,none⟩=some v3∧w.cell? ⟨b,4,none⟩=some v4∧w.cell? ⟨b,5,none⟩=some v5∧w.cell? ⟨b,6,none⟩=some v6:=by
 refine⟨?_,?_,?_,?_,?_,?_,?_⟩<;>(rw[cr w b _ _ _ _ h];rfl)
theorem At.stays{w2:World}{m2:Mem}{S2:Wd}(R:bz af F w m S)(B:At af F m w m2 w2 S2){b:Nat}{o:Obj}(h:w.heap[b]?=some o)(hn:∀r,m.aV r≠some b):w2.heap[b]?=some o∧∀r,m2.aV r≠some b:=by
 have dD:b<w.heap.size:=(dh h).1;refine⟨(B.mv.keep b dD hn).trans h,fun r e=>?_⟩;rcases B.mv.old r b e with⟨r0,h0⟩|h0
 ·exact hn r0 h0
 ·omega
theorem bz.iT(R:bz af F w m S){b:Nat}(h:w.heap.size≤b):∀r,m.aV r≠some b:=fun r e=>by have:=R.lt e;omega
structure Good(S:Wd):Prop where
 ar:S.ar.Ok
 aC:S.ar.aC.length=S.gs.length
 au:∀(i:Nat) (r:Ring),S.au[i]?=some r→r.Ok
 wakes:∀(g:Nat) (x:bI),S.gs[g]?=some x→x.wakes.length≤1000000
 nA:S.aO.length=S.au.length
end
structure AB(af:Nat)(F:Fx)(m0:Mem)(w0:World)(m:Mem)(w:World)(S:Wd)(L:List (Nat×Obj)):Prop where
 at_:At af F m0 w0 m w S
 loc:∀p∈L,w.heap[p.1]?=some p.2∧∀r,m.aV r≠some p.1
section
variable{af:Nat}{F:Fx}{w w0 w':World}{m m0 m':Mem}{S S':Wd}{L:List (Nat×Obj)}
theorem AB.av(X:AB af F m0 w0 m w S L)(B:At af F m w m' w' S'):AB af F m0 w0 m' w' S' L:=
 ⟨X.at_.cont B,fun p hp=>At.stays X.at_.bj B (X.loc p hp).1 (X.loc p hp).2⟩
theorem AB.bj(X:AB af F m0 w0 m w S L):bz af F w m S:=X.at_.bj
theorem AB.aI(X:AB af F m0 w0 m w S L)(h1:w'.heap=w.heap:=by exact rfl)(h2:w'.os=w.os:=by exact rfl)(h3:w'.tape=w.tape:=by exact rfl)(h4:w'.output=w.output:=by exact rfl):AB af F m0 w0 m w' S L:=
 ⟨X.at_.aI h1 h2 h3 h4,fun p hp=>by rw[h1];exact X.loc p hp⟩
theorem AB.g(X:AB af F m0 w0 m w S L){j:Nat}{x:bI}(hx:S.gs[j]?=some x)(y:bI){q:Nat}{v:Value}(hq:q<25:=by omega)(hy:gk m j y=(gk m j x).set q v:=by exact rfl)(h1:y.ops=x.ops:=by exact rfl)(h2:y.aH=x.aH:=by exact rfl)(h3:y.aq=x.aq:=by exact rfl)(h4:y.bA=x.bA:=by exact rfl)(h5:y.wakes=x.wakes:=by exact rfl):AB af F m0 w0 m (w.setCell ⟨F.gs,j*25+q,none⟩ v) (S.ay j y) L:=
 X.av ((At.refl X.bj).g hx y hq hy h1 h2 h3 h4 h5)
theorem AB.s(X:AB af F m0 w0 m w S L){j:Nat}{x:gn}(hx:S.ah[j]?=some x)(y:gn){q:Nat}{v:Value}(hq:q<7)(hy:mg j y=(mg j x).set q v):AB af F m0 w0 m (w.setCell ⟨F.ah,j*7+q,none⟩ v) (S.cJ j y) L:=
 X.av ((At.refl X.bj).s hx y hq hy)
theorem AB.res(X:AB af F m0 w0 m w S L){j:Nat}{x:bI}(hx:S.gs[j]?=some x)(y:nP):AB af F m0 w0 m (((((w.setCell ⟨F.gs,j*25+15,none⟩ (I y.aJ)).setCell ⟨F.gs,j*25+16,none⟩ (I y.case)).setCell ⟨F.gs,j*25+17,none⟩ (I y.v)).setCell ⟨F.gs,j*25+18,none⟩ (B y.ok)).setCell ⟨F.gs,j*25+19,none⟩ (I y.n)) (S.ay j {x with res:=y}) L:=
 X.av ((At.refl X.bj).res hx y)
theorem AB.alloc(X:AB af F m0 w0 m w S L)(o:Obj):AB af F m0 w0 m (w.alloc o) S ((w.heap.size,o)::L):=by
 refine⟨X.at_.alloc o,fun p hp=>?_⟩;rcases iL.1 hp with h|h
 ·subst h;exact⟨dP w o,X.bj.iT cG⟩
 ·exact At.stays X.bj ((At.refl X.bj).alloc o) (X.loc p h).1 (X.loc p h).2
theorem AB.less(X:AB af F m0 w0 m w S L){L':List (Nat×Obj)}(h:∀p∈L',p∈L):AB af F m0 w0 m w S L':=⟨X.at_,fun p hp=>X.loc p (h p hp)⟩
theorem AB.iU(R:bz af F w m S):AB af F m w m w S []:=⟨At.refl R,fun p hp=>by cases hp⟩
theorem AB.head{b:Nat}{o:Obj}(X:AB af F m0 w0 m w S ((b,o)::L)):w.heap[b]?=some o:=(X.loc _ (rn ..)).1
theorem AB.ne{b:Nat}{o:Obj}(X:AB af F m0 w0 m w S ((b,o)::L)){r:bH}{f:Nat}(h:m.aV r=some f):f≠b:=fun e=>(X.loc _ (rn ..)).2 r (by rw[←e];exact h)
theorem dm.shape{H:Nat}{v:Value}{cs:List Case}(h:dm H w v cs):∃a c,v=.slice a cs.length c:=by
 rcases h with⟨h1,h2⟩|⟨nb,cap,h1,h2,_⟩
 ·exact⟨none,0,by rw[h1,h2];rfl⟩
 ·exact⟨_,_,h2⟩
def az2(F:Fx)(g:Nat)(o:cu)(ca:Option Addr)(cn cc:Nat):Array Value:=#[.pointer (some ⟨F.al,0,none⟩),I g,I o.ai,I o.ch,I o.n,I o.v,.slice ca cn cc,B o.dG]
theorem SN(R:bz af F w m S)(g:Nat)(x:bI)(hx:S.gs[g]?=some x)(o:cu)(ca:Option Addr)(cn cc:Nat):Calls prog 146 #[.agg #[.pointer (some ⟨F.al,0,none⟩),I g,I o.ai,I o.ch,I o.n,I o.v,.slice ca cn cc,B o.dG]] w (eL (.pointer (some ⟨F.gs,g*25,none⟩)) fun w'=>At af F m w m w' S):=by
 have eM:=cA hx;have c3:=R.eu;have aU:=R.lt R.aB.al;have HA:=ag ((At.refl R).alloc (iY F g o ca cn cc));clear R hx;go_enter func146,ntmps146;go_wp2;go_quiet (fail);go_wp2;go_ret;exact⟨rfl,HA.out.aI⟩
theorem pn(X:AB af F m0 w0 m w S L)(g:Nat){x:bI}(hx:S.gs[g]?=some x)(o:cu)(ca:Option Addr)(cn cc:Nat):Calls prog 146 #[.agg #[.pointer (some ⟨F.al,0,none⟩),I g,I o.ai,I o.ch,I o.n,I o.v,.slice ca cn cc,B o.dG]] w (eL (.pointer (some ⟨F.gs,g*25,none⟩)) fun w'=>AB af F m0 w0 m w' S L):=
 (SN X.bj g x hx o ca cn cc).mono fun e w' ⟨h1,h2⟩=>⟨h1,X.av h2⟩
theorem LW(R:bz af F w m S)(g:Nat)(x:bI)(hx:S.gs[g]?=some x)(o:cu)(ca:Option Addr)(cn cc:Nat)(p:Int):Calls prog 98 #[.agg #[.pointer (some ⟨F.al,0,none⟩),I g,I o.ai,I o.ch,I o.n,I o.v,.slice ca cn cc,B o.dG],I p] w (ee fun w'=>At af F m w m w' (S.ay g {x with ae:=p})):=by
 have HX:=ag hx;have HA:=ag ((AB.iU R).alloc (iY F g o ca cn cc));clear R hx;go_enter func98,ntmps98;go_wp2_with (go_at_call 146;refine(pn HA.out g HX.out o ca cn cc).mono ?_;rintro e w2 ⟨rfl,X2⟩;have R2:=X2.bj;have g2:=R2.g HX.out 2 _ rfl;have fg2:=R2.frozen R2.aB.gs (g*25+2);have A3:=X2.at_.g HX.out {x with ae:=p} (q:=2) (v:=I p);have vC:=ag A3;clear X2 R2 A3);go_end0;exact⟨rfl,vC.out⟩
theorem Fl(R:bz af F w m S)(g:Nat)(x:bI)(hx:S.gs[g]?=some x)(o:cu)(ca:Option Addr)(cn cc:Nat)(aJ:Int):Calls prog 148 #[.agg #[.pointer (some ⟨F.al,0,none⟩),I g,I o.ai,I o.ch,I o.n,I o.v,.slice ca cn cc,B o.dG],I aJ] w (ee fun w'=>At af F m w m w' (S.ay g {x with res:=bZ aJ})):=by
 have HX:=ag hx;have HA:=ag ((AB.iU R).alloc (iY F g o ca cn cc));clear R hx;go_enter func148,ntmps148;go_wp2_with (go_at_call 146;refine(pn HA.out g HX.out o ca cn cc).mono ?_;rintro e w2 ⟨rfl,X2⟩;have R2:=X2.bj;have g15:=R2.g HX.out 15 _ rfl;have ZB:=R2.frozen R2.aB.gs (g*25+15);have g16:=R2.g HX.out 16 _ rfl;have az3:=R2.frozen R2.aB.gs (g*25+16);have g17:=R2.g HX.out 17 _ rfl;have az4:=R2.frozen R2.aB.gs (g*25+17);have g18:=R2.g HX.out 18 _ rfl;have az5:=R2.frozen R2.aB.gs (g*25+18);have g19:=R2.g HX.out 19 _ rfl;have az6:=R2.frozen R2.aB.gs (g*25+19);have A3:=X2.at_.res HX.out (bZ aJ);have vC:=ag A3;clear X2 R2 A3);go_end0;exact⟨rfl,vC.out⟩
theorem ig(X:AB af F m0 w0 m w S L)(g:Nat){x:bI}(hx:S.gs[g]?=some x)(o:cu)(ca:Option Addr)(cn cc:Nat)(p:Int):Calls prog 98 #[.agg #[.pointer (some ⟨F.al,0,none⟩),I g,I o.ai,I o.ch,I o.n,I o.v,.slice ca cn cc,B o.dG],I p] w (ee fun w'=>AB af F m0 w0 m w' (S.ay g {x with ae:=p}) L):=
 (LW X.bj g x hx o ca cn cc p).mono fun e w' ⟨h1,h2⟩=>⟨h1,X.av h2⟩
theorem mG(X:AB af F m0 w0 m w S L)(g:Nat){x:bI}(hx:S.gs[g]?=some x)(o:cu)(ca:Option Addr)(cn cc:Nat)(aJ:Int):Calls prog 148 #[.agg #[.pointer (some ⟨F.al,0,none⟩),I g,I o.ai,I o.ch,I o.n,I o.v,.slice ca cn cc,B o.dG],I aJ] w (ee fun w'=>AB af F m0 w0 m w' (S.ay g {x with res:=bZ aJ}) L):=
 (Fl X.bj g x hx o ca cn cc aJ).mono fun e w' ⟨h1,h2⟩=>⟨h1,X.av h2⟩
end
end Go.Proofs.YtadifmnmfnihdaaGreat
