import Derived.Test.YtadifmnmfnihdaaGreatA07
import Derived.Test.YtadifmnmfnihdaaGreatA10
import Derived.Test.YtadifmnmfnihdaaGreatA11
set_option linter.all false
set_option maxRecDepth 100000
set_option maxHeartbeats 40000000
namespace Go.Proofs.YtadifmnmfnihdaaGreat
open Go.RowKit Mach Go.Proofs.Tryz
section
variable{af:Nat}{F:Fx}{w w0 w':World}{m m0 m':Mem}{S S':Wd}{L:List (Nat×Obj)}
section
variable(X:AB af F m0 w0 m w S L)(g:Nat)(o:cu)
include X g o
theorem PN(bO:eX o.ch)(ca:Option Addr)(cn cc:Nat){S':Wd}(hm:ll S g o.ch=some S'):Calls prog 93 #[.agg #[.pointer (some ⟨F.al,0,none⟩),I g,I o.ai,I o.ch,I o.n,I o.v,.slice ca cn cc,B o.dG]] w (ee fun w'=>AB af F m0 w0 m w' S' L):=
 (Ja X.bj g o bO ca cn cc S' hm).mono fun e w' ⟨h1,h2⟩=>⟨h1,X.av h2⟩
theorem Mr(aG:Good S)(bO:eX o.ch)(ca:Option Addr)(cn cc:Nat){S':Wd}(hm:jG S g o.ch=some S'):Calls prog 94 #[.agg #[.pointer (some ⟨F.al,0,none⟩),I g,I o.ai,I o.ch,I o.n,I o.v,.slice ca cn cc,B o.dG]] w (ee fun w'=>AB af F m0 w0 m w' S' L):=
 (F4 X.bj aG g o bO ca cn cc S' hm).mono fun e w' ⟨h1,h2⟩=>⟨h1,X.av h2⟩
theorem Ms(aG:Good S)(bO:eX o.ch)(ca:Option Addr)(cn cc:Nat){S':Wd}(hm:jH S g o.ch=some S'):Calls prog 95 #[.agg #[.pointer (some ⟨F.al,0,none⟩),I g,I o.ai,I o.ch,I o.n,I o.v,.slice ca cn cc,B o.dG]] w (ee fun w'=>AB af F m0 w0 m w' S' L):=
 (F5 X.bj aG g o bO ca cn cc S' hm).mono fun e w' ⟨h1,h2⟩=>⟨h1,X.av h2⟩
theorem PO(ca:Option Addr)(cn cc:Nat){S':Wd}(hm:lp S g o.v=some S'):Calls prog 100 #[.agg #[.pointer (some ⟨F.al,0,none⟩),I g,I o.ai,I o.ch,I o.n,I o.v,.slice ca cn cc,B o.dG]] w (ee fun w'=>∃m',AB af F m0 w0 m' w' S' L):=
 (Jd X.bj g o ca cn cc S' hm).mono fun e w' ⟨h1,m',h2⟩=>⟨h1,m',X.av h2⟩
theorem PQ(aG:Good S)(bO:eX o.ch)(ca:Option Addr)(cn cc:Nat){S':Wd}(hm:jY S g o=some S'):Calls prog 101 #[.agg #[.pointer (some ⟨F.al,0,none⟩),I g,I o.ai,I o.ch,I o.n,I o.v,.slice ca cn cc,B o.dG]] w (ee fun w'=>AB af F m0 w0 m w' S' L):=
 (Je X.bj aG g o bO ca cn cc S' hm).mono fun e w' ⟨h1,h2⟩=>⟨h1,X.av h2⟩
theorem PR(ca:Option Addr)(cn cc:Nat){S':Wd}(hm:lu S g=some S'):Calls prog 104 #[.agg #[.pointer (some ⟨F.al,0,none⟩),I g,I o.ai,I o.ch,I o.n,I o.v,.slice ca cn cc,B o.dG]] w (ee fun w'=>AB af F m0 w0 m w' S' L):=
 (Jb X.bj g o ca cn cc S' hm).mono fun e w' ⟨h1,h2⟩=>⟨h1,X.av h2⟩
end
section
variable(X:AB af F m0 w0 m w S L)
include X
theorem ot{g:Nat}{k Ey hand:Int}{S':Wd}{ok:Bool}(hm:Mach.take S g k Ey hand=some (S',ok)):Calls prog 96 #[bR F,I g,I k,I Ey,I hand] w (eL (.bool ok) fun w'=>AB af F m0 w0 m w' S' L):=
 (LP X.bj g k Ey hand S' ok hm).mono fun e w' ⟨h1,h2⟩=>⟨h1,X.av h2⟩
theorem PS{g:Nat}{lost Eh:Int}{S':Wd}(hm:rD S g lost Eh=some S'):Calls prog 99 #[bR F,I g,I lost,I Eh] w (ee fun w'=>AB af F m0 w0 m w' S' L):=
 (Ff X.bj g lost Eh S' hm).mono fun e w' ⟨h1,h2⟩=>⟨h1,X.av h2⟩
theorem Ti(aG:Good S){g:Nat}{sd:gn}{S':Wd}(hm:rE S g sd=some S'):Calls prog 102 #[bR F,I g,.agg #[B sd.cK,I sd.g,I sd.ch,I sd.case,B sd.cF,I sd.v,B sd.done]] w (ee fun w'=>∃m',AB af F m0 w0 m' w' S' L):=
 (BY X.bj aG g sd S' hm).mono fun e w' ⟨h1,m',h2⟩=>⟨h1,m',X.av h2⟩
theorem jP(aG:Good S){g:Nat}{d:Bool}{S':Wd}(hm:gH S g=some (S',d)):Calls prog 105 #[bR F,I g] w (eL (.bool d) fun w'=>∃m',AB af F m0 w0 m' w' S' L):=
 (xd X.bj aG g S' d hm).mono fun e w' ⟨h1,m',h2⟩=>⟨h1,m',X.av h2⟩
end
theorem AB.oP(X:AB af F m0 w0 m w S [])(o1 o2:Obj):AB af F m0 w0 m ((w.alloc o1).alloc o2) S [(w.heap.size+1,o2),(w.heap.size,o1)]:=by
 exact be4
theorem AB.qn(A:At af F m0 w0 m w S):AB af F m0 w0 m w S []:=⟨A,fun p hp=>by cases hp⟩
theorem ss(X:AB af F m0 w0 m w S L):To af F m0 w0 S w:=⟨m,X.at_⟩
theorem Bd{b:Nat}{v0 v1 v2:Value}{t:TypeId}{fr:Nat×Nat}(h:w.heap[b]?=some (.cells #[v0,v1,v2] t fr)):w.cell? ⟨b,0,none⟩=some v0∧w.cell? ⟨b,1,none⟩=some v1∧w.cell? ⟨b,2,none⟩=some v2:=by
 refine⟨?_,?_,?_⟩<;>(rw[cr w b _ _ _ _ h];rfl)
theorem qT{b:Nat}{v0 v1 v2 v3 v4:Value}{t:TypeId}{fr:Nat×Nat}(h:w.heap[b]?=some (.cells #[v0,v1,v2,v3,v4] t fr)):w.cell? ⟨b,0,none⟩=some v0∧w.cell? ⟨b,1,none⟩=some v1∧w.cell? ⟨b,2,none⟩=some v2∧w.cell? ⟨b,3,none⟩=some v3∧w.cell? ⟨b,4,none⟩=some v4:=by
 refine⟨?_,?_,?_,?_,?_⟩<;>(rw[cr w b _ _ _ _ h];rfl)
theorem AB.snd{b b':Nat}{o o':Obj}(X:AB af F m0 w0 m w S ((b',o')::(b,o)::L)):w.heap[b]?=some o:=(X.loc _ (nO _ (rn ..))).1
theorem aM{b:Nat}{arr:Array Value}{t:TypeId}(h:w.heap[b]?=some (.cells arr t (0,0)))(j:Nat):w.frozen? ⟨b,j,none⟩=false:=iM w b j _ _ h
theorem PT:∃d,prog.underlying 44=some d∧(match d with| .struct _| .array _ _=>true|_=>false)=true:=by
 have h:(match prog.underlying 44 with|some d=>(match d with| .struct _| .array _ _=>true|_=>false)|none=>false)=true:=kX
 cases hd:prog.underlying 44 with
 |none=>rw[hd]at h;cases h
 |some d=>rw[hd]at h;exact⟨d,rfl,h⟩
theorem zA:(prog.info? 44).map (·.size)=some 5:=kX
theorem mJ{fn:Func}{p t u:Tmp}(h:fn.results=#[.cell p 44,.tmp t,.tmp u])(tmps:Array Value)(w:World)(b:Nat)(v0 v1 v2 v3 v4:Value)(fr:Nat×Nat)(hp:tmps.getD p undef=.pointer (some ⟨b,0,none⟩))(hg:w.heap[b]?=some (.cells #[v0,v1,v2,v3,v4] 44 fr)):(results fn tmps).run prog w=.ok (.tuple #[.agg #[v0,v1,v2,v3,v4],tmps.getD t undef,tmps.getD u undef]) w:=by
 exact aX1
theorem kF{W:World}{b:Nat}{a0 a1 a2 a3 a4:Value}(h:W.heap[b]?=some (.cells #[a0,a1,a2,a3,a4] 44 (0,0)))(v0 v1 v2 v3 v4:Value):(((((W.setCell ⟨b,0,none⟩ v0).setCell ⟨b,1,none⟩ v1).setCell ⟨b,2,none⟩ v2).setCell ⟨b,3,none⟩ v3).setCell ⟨b,4,none⟩ v4).heap[b]?=some (.cells #[v0,v1,v2,v3,v4] 44 (0,0)):=by
 have h0:=heap_setCell_same W b 0 _ _ v0 h;have h1:=heap_setCell_same _ b 1 _ _ v1 h0;have h2:=heap_setCell_same _ b 2 _ _ v2 h1;have h3:=heap_setCell_same _ b 3 _ _ v3 h2;exact heap_setCell_same _ b 4 _ _ v4 h3
theorem At.xF{W:World}{b:Nat}(A:At af F m0 w0 m W S)(hn:∀r,m.aV r≠some b)(h0:w0.heap.size≤b)(v0 v1 v2 v3 v4:Value):At af F m0 w0 m (((((W.setCell ⟨b,0,none⟩ v0).setCell ⟨b,1,none⟩ v1).setCell ⟨b,2,none⟩ v2).setCell ⟨b,3,none⟩ v3).setCell ⟨b,4,none⟩ v4) S:=
 ((((A.other hn h0 v0).other hn h0 v1).other hn h0 v2).other hn h0 v3).other hn h0 v4
theorem xG(R:bz af F w m S)(g:Nat)(c:Case)(j:Nat)(hc:c.ch=j+1)(hj:(j:Int)≤1000000000)(h:S.aO[j]?=some true):Calls prog 171 #[bR F,I g,.agg #[B c.cF,I c.ch,I c.v]] w (eL (.tuple #[.agg #[I 3,I 0,I 0,B false,I 0],.bool true,.bool false]) fun w'=>At af F m w m w' S):=by
 obtain⟨cb,fP,c6,cx⟩:=R.ka h;have De:j<S.aO.length:=cA h;have aU:=R.lt R.aB.al;have EX:=R.lt fP;have HX:=ag (AB.oP (AB.iU R) (.cells #[B c.cF,I (j+1),I c.v] 52) (.cells #[I 0,I 0,I 0,B false,I 0] 44));have hs:IntKind.i64.wrap ((j:Int)+1-1)=(j:Int):=bv4
 rw[hc];clear R h fP hc;unfold bR;go_enter func171,ntmps171;go_wp2_with fail
 go_quiet (fail);go_wp2;have X:=HX.out;refine bodyPost_ret (mJ rfl _ _ (w.heap.size+1) _ _ _ _ _ (0,0) rfl (kF X.head _ _ _ _ _)) rfl ?_;refine⟨rfl,At.xF ?_ (X.loc _ (rn ..)).2 (Nat.le_succ _) _ _ _ _ _⟩;exact X.at_.aI
end
end Go.Proofs.YtadifmnmfnihdaaGreat
