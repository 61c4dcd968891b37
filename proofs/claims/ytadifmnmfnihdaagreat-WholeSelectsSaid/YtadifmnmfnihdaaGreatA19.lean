import Derived.Test.YtadifmnmfnihdaaGreatA11
set_option linter.all false
set_option maxRecDepth 100000
set_option maxHeartbeats 40000000
namespace Go.Proofs.YtadifmnmfnihdaaGreat
open Go.RowKit Mach Go.Proofs.Tryz
section
variable{af:Nat}{F:Fx}{w w0 w':World}{m m0 m':Mem}{S S':Wd}{L:List (Nat×Obj)}
theorem u7(X:AB af F m0 w0 m w S L){x:Int}{S':Wd}(h:fZ S x=some S'):Calls prog 150 #[.pointer (some ⟨F.aw,0,none⟩),I x] w fun e w'=>(∃b,e=.returned (.bool b))∧AB af F m0 w0 m w' S' L:=
 (kv (At.refl X.bj) h).mono fun e w' ⟨h1,h2⟩=>⟨h1,X.av h2⟩
theorem zy(X:AB af F m0 w0 m w S L){k x:Int}{S':Wd}(h:lh S k x=some S'):Calls prog 103 #[.pointer (some ⟨F.aw,0,none⟩),I k,I x] w fun e w'=>(∃b,e=.returned (.bool b))∧AB af F m0 w0 m w' S' L:=
 (yZ (At.refl X.bj) h).mono fun e w' ⟨h1,h2⟩=>⟨h1,X.av h2⟩
theorem vj(X:AB af F m0 w0 m w S L){g s:Nat}{d:Bool}{S':Wd}(hm:Mach.serve S g s d=some S'):Calls prog 152 #[bR F,I g,I s,.bool d] w (ee fun w'=>∃m',AB af F m0 w0 m' w' S' L):=
 (yT X.bj g s d S' hm).mono fun e w' ⟨h1,m',h2⟩=>⟨h1,m',X.av h2⟩
theorem DM(X:AB af F m0 w0 m w S L){i rb:Nat}{r:Ring}(h:S.au[i]?=some r)(fA:m.aV (.eU i)=some rb)(ok:r.Ok)(v:Int):Calls prog 153 #[.pointer (some ⟨rb,0,none⟩),I v] w (eL (.bool (r.put v).2) fun w'=>AB af F m0 w0 m w' (S.dZ i (r.put v).1) L):=
 (N1 X.bj h fA ok v).mono fun e w' ⟨h1,h2⟩=>⟨h1,X.av h2⟩
theorem Jb(R:bz af F w m S)(g:Nat)(o:cu)(ca:Option Addr)(cn cc:Nat)(S':Wd)(hm:lu S g=some S'):Calls prog 104 #[.agg #[.pointer (some ⟨F.al,0,none⟩),I g,I o.ai,I o.ch,I o.n,I o.v,.slice ca cn cc,B o.dG]] w (ee fun w'=>At af F m w m w' S'):=by
 have HX:=ag ((AB.iU R).alloc (iY F g o ca cn cc));unfold lu at hm;simp only[bW,cI]at hm;obtain⟨x,hx,s,hs,sd,eo,hm⟩:=hm
 cases hm;have hs:=du hs;obtain⟨HG,HS,qH⟩:=ij hx hs eo;have mj:s<S.ah.length:=cA eo;have c9:=R.ed;have dD:=R.lt R.aB.al;obtain⟨aJ,ic⟩:∃aJ:Int,aJ=if sd.done then 1 else 3:=⟨_,rfl⟩
 have Jc:(if sd.done=true then(1:Int)else 3)=aJ:=ic.symm;rw[Jc];have nU:Hid ((S.ay g {x with res:=bZ aJ}).gs[g]?=some {x with res:=bZ aJ}):=az hx
 cases hd:sd.done with
 |true=>
  have HD:=ag hd;have oF:aJ=1:=by rw[ic,hd];rfl
  subst oF;clear R hx hs eo ic Jc hd;go_enter func104,ntmps104;go_wp2_with fail
  go_region_with (go_at_call 146;refine(pn (af:=af) (F:=F) (m0:=m) (w0:=w) (m:=m) (L:=[(w.heap.size,iY F g o ca cn cc)]) (S:=S) ?_ g HG.out o ca cn cc).mono ?_;exact HX.out.aI;rintro e wN ⟨rfl,X⟩;have RN:=X.bj;obtain⟨p0,p1,p2,p3,p4,p5,p6,p7⟩:=jo X.head;have d9:=RN.ed;have g7:=RN.g HG.out 7 _ rfl;rw[HS.out]at g7;have s6:=RN.s qH.out 6 _ rfl;rw[HD.out]at s6;have tm:=ag X;clear X RN)
  all_goals
   go_wp2_with (first|(go_at_call 148;refine(mG (af:=af) (F:=F) (m0:=m) (w0:=w) (m:=m) (L:=[(w.heap.size,iY F g o ca cn cc)]) (S:=S) ?_ g HG.out o ca cn cc 1).mono ?_;exact tm.out.aI;rintro e wN ⟨rfl,X⟩;have RN:=X.bj;obtain⟨p0,p1,p2,p3,p4,p5,p6,p7⟩:=jo X.head;have oh:=ag X;clear X RN)|(go_at_call 146;refine(pn (af:=af) (F:=F) (m0:=m) (w0:=w) (m:=m) (L:=[(w.heap.size,iY F g o ca cn cc)]) (S:=S.ay g {x with res:=bZ 1}) ?_ g nU.out o ca cn cc).mono ?_;exact oh.out;rintro e wN ⟨rfl,X⟩;have RN:=X.bj;obtain⟨p0,p1,p2,p3,p4,p5,p6,p7⟩:=jo X.head;have k7:=RN.g nU.out 7 _ rfl;have fk7:=RN.frozen RN.aB.gs (g*25+7);have nb:=X.ne RN.aB.gs;have Kn:=nb.symm;have X4:=X.g nU.out {x with res:=bZ 1,aN:= -1} (q:=7) (v:=I (-1));rw[aA]at X4;have ux:=ag X4;clear X4;have ub:=ag X;clear X RN)|(go_at_call 98;refine(ig (af:=af) (F:=F) (m0:=m) (w0:=w) (m:=m) (L:=[(w.heap.size,iY F g o ca cn cc)]) (S:=S.ay g {x with res:=bZ 1,aN:= -1}) ?_ g (az HG.out) o ca cn cc 15).mono ?_;exact ux.out;rintro e wN ⟨rfl,X⟩;have RN:=X.bj;have Hb:=ag X;clear X RN));go_end0;exact⟨rfl,Hb.out.at_.eq aA⟩
 |false=>
  have HD:=ag hd;have oF:aJ=3:=by rw[ic,hd];rfl
  subst oF;clear R hx hs eo ic Jc hd;go_enter func104,ntmps104;go_wp2_with fail
  go_region_with (go_at_call 146;refine(pn (af:=af) (F:=F) (m0:=m) (w0:=w) (m:=m) (L:=[(w.heap.size,iY F g o ca cn cc)]) (S:=S) ?_ g HG.out o ca cn cc).mono ?_;exact HX.out.aI;rintro e wN ⟨rfl,X⟩;have RN:=X.bj;obtain⟨p0,p1,p2,p3,p4,p5,p6,p7⟩:=jo X.head;have d9:=RN.ed;have g7:=RN.g HG.out 7 _ rfl;rw[HS.out]at g7;have s6:=RN.s qH.out 6 _ rfl;rw[HD.out]at s6;have tm:=ag X;clear X RN)
  all_goals
   go_wp2_with (first|(go_at_call 148;refine(mG (af:=af) (F:=F) (m0:=m) (w0:=w) (m:=m) (L:=[(w.heap.size,iY F g o ca cn cc)]) (S:=S) ?_ g HG.out o ca cn cc 3).mono ?_;exact tm.out.aI;rintro e wN ⟨rfl,X⟩;have RN:=X.bj;obtain⟨p0,p1,p2,p3,p4,p5,p6,p7⟩:=jo X.head;have oh:=ag X;clear X RN)|(go_at_call 146;refine(pn (af:=af) (F:=F) (m0:=m) (w0:=w) (m:=m) (L:=[(w.heap.size,iY F g o ca cn cc)]) (S:=S.ay g {x with res:=bZ 3}) ?_ g nU.out o ca cn cc).mono ?_;exact oh.out;rintro e wN ⟨rfl,X⟩;have RN:=X.bj;obtain⟨p0,p1,p2,p3,p4,p5,p6,p7⟩:=jo X.head;have k7:=RN.g nU.out 7 _ rfl;have fk7:=RN.frozen RN.aB.gs (g*25+7);have nb:=X.ne RN.aB.gs;have Kn:=nb.symm;have X4:=X.g nU.out {x with res:=bZ 3,aN:= -1} (q:=7) (v:=I (-1));rw[aA]at X4;have ux:=ag X4;clear X4;have ub:=ag X;clear X RN)|(go_at_call 98;refine(ig (af:=af) (F:=F) (m0:=m) (w0:=w) (m:=m) (L:=[(w.heap.size,iY F g o ca cn cc)]) (S:=S.ay g {x with res:=bZ 3,aN:= -1}) ?_ g (az HG.out) o ca cn cc 15).mono ?_;exact ux.out;rintro e wN ⟨rfl,X⟩;have RN:=X.bj;have Hb:=ag X;clear X RN));go_end0;exact⟨rfl,Hb.out.at_.eq aA⟩
theorem Jd(R:bz af F w m S)(g:Nat)(o:cu)(ca:Option Addr)(cn cc:Nat)(S':Wd)(hm:lp S g o.v=some S'):Calls prog 100 #[.agg #[.pointer (some ⟨F.al,0,none⟩),I g,I o.ai,I o.ch,I o.n,I o.v,.slice ca cn cc,B o.dG]] w (ee (To af F m w S')):=by
 have HX:=ag ((AB.iU R).alloc (iY F g o ca cn cc));unfold lp fL at hm;simp only[bW,cI]at hm;obtain⟨x,hx,s,hs,S2,h2,sd,eo,S3,h3,hm⟩:=hm
 cases nM:S3.gs[g]? with
 |none=>rw[nM]at hm;cases hm
 |some x3=>
  rw[nM]at hm
  cases hm;have hs:=du hs;obtain⟨HG,HS,qH,H2,H3,Ns⟩:=mr hx hs eo h2 h3 nM;have mj:s<S2.ah.length:=cA eo;clear R hx hs eo h2 h3 nM;go_enter func100,ntmps100;go_wp2_with (first|(go_at_call 146;refine(pn (af:=af) (F:=F) (m0:=m) (w0:=w) (m:=m) (L:=[(w.heap.size,iY F g o ca cn cc)]) (S:=S) ?_ g HG.out o ca cn cc).mono ?_;exact HX.out;rintro e wN ⟨rfl,X⟩;have RN:=X.bj;obtain⟨p0,p1,p2,p3,p4,p5,p6,p7⟩:=jo X.head;have d8:=RN.dR;have g9:=RN.g HG.out 9 _ rfl;rw[HS.out]at g9;have tm:=ag X;clear X RN)|(go_at_call 150;refine(u7 (af:=af) (F:=F) (m0:=m) (w0:=w) (m:=m) (L:=[(w.heap.size,iY F g o ca cn cc)]) (S:=S) ?_ H2.out).mono ?_;exact tm.out;rintro e wN ⟨⟨bb,rfl⟩,X⟩;have RN:=X.bj;obtain⟨p0,p1,p2,p3,p4,p5,p6,p7⟩:=jo X.head;have e9:=RN.ed;have s5:=RN.s qH.out 5 _ rfl;have fs5:=RN.frozen RN.aB.ah (s*7+5);have nb:=X.ne RN.aB.ah;have Kn:=nb.symm;have nw:=RN.ne RN.aB.ah RN.aB.al;have nw':=nw.symm;have X4:=X.s qH.out {sd with v:=o.v} (q:=5) (v:=I o.v) (by omega) rfl;have ux:=ag X4;clear X4;have oh:=ag X;clear X RN))
  go_region
  all_goals
   go_wp2_with (first|(go_at_call 152;refine(vj (af:=af) (F:=F) (m0:=m) (w0:=w) (m:=m) (L:=[(w.heap.size,iY F g o ca cn cc)]) (S:=S2.cJ s {sd with v:=o.v}) ?_ H3.out).mono ?_;exact ux.out.aI;rintro e wN ⟨rfl,mS,X⟩;obtain⟨p0,p1,p2,p3,p4,p5,p6,p7⟩:=jo X.head;have ub:=ag X;clear X)|(go_at_call 148;refine(mG (af:=af) (F:=F) (m0:=m) (w0:=w) (m:=mS) (L:=[(w.heap.size,iY F g o ca cn cc)]) (S:=S3) ?_ g Ns.out o ca cn cc 1).mono ?_;exact ub.out;rintro e wN ⟨rfl,X⟩;obtain⟨p0,p1,p2,p3,p4,p5,p6,p7⟩:=jo X.head;have Hb:=ag X;clear X)|(go_at_call 98;refine(ig (af:=af) (F:=F) (m0:=m) (w0:=w) (m:=mS) (L:=[(w.heap.size,iY F g o ca cn cc)]) (S:=S3.ay g {x3 with res:=bZ 1}) ?_ g (az Ns.out) o ca cn cc 16).mono ?_;exact Hb.out;rintro e wN ⟨rfl,X⟩;have FO:=ag X;clear X));go_end0;exact⟨rfl,_,FO.out.at_.eq aA⟩
end
end Go.Proofs.YtadifmnmfnihdaaGreat
