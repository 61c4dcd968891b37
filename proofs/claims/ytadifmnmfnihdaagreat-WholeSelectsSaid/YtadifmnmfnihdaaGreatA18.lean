import Derived.Test.YtadifmnmfnihdaaGreatA12
set_option linter.all false
set_option maxRecDepth 100000
set_option maxHeartbeats 40000000
namespace Go.Proofs.YtadifmnmfnihdaaGreat
open Go.RowKit Mach Go.Proofs.Tryz
section
variable{af:Nat}{F:Fx}{w w0 w':World}{m m0 m':Mem}{S S':Wd}{L:List (Nat×Obj)}
theorem uf(X:AB af F m0 w0 m w S L)(g:Nat)(o:cu)(bO:eX o.ch)(ca:Option Addr)(cn cc:Nat):Calls prog 97 #[.agg #[.pointer (some ⟨F.al,0,none⟩),I g,I o.ai,I o.ch,I o.n,I o.v,.slice ca cn cc,B o.dG]] w (eL (I (2*o.ch-2)) fun w'=>AB af F m0 w0 m w' S L):=by
 have HX:=ag (X.alloc (.cells #[.pointer (some ⟨F.al,0,none⟩),I g,I o.ai,I o.ch,I o.n,I o.v,.slice ca cn cc,B o.dG] 173));clear X;go_enter func97,ntmps97;go_wp2;go_ret;exact⟨rfl,HX.out.less (fun p hp=>nO _ hp)⟩
theorem Tf(X:AB af F m0 w0 m w S L)(k:Int):Calls prog 205 #[.pointer (some ⟨F.aw,0,none⟩),I k] w (eL (I (S.aw.len k)) fun w'=>AB af F m0 w0 m w' S L):=
 (By X.bj k).mono fun e w' ⟨h1,h2⟩=>⟨h1,h2▸X⟩
theorem Mq(R:bz af F w m S)(g:Nat)(o:cu)(bO:eX o.ch)(ca:Option Addr)(cn cc:Nat)(b:Bool)(hm:pY S o.ch=some b):Calls prog 145 #[.agg #[.pointer (some ⟨F.al,0,none⟩),I g,I o.ai,I o.ch,I o.n,I o.v,.slice ca cn cc,B o.dG]] w (eL (.bool b) fun w'=>At af F m w m w' S):=by
 have X:=(AB.iU R).alloc (.cells #[.pointer (some ⟨F.al,0,none⟩),I g,I o.ai,I o.ch,I o.n,I o.v,.slice ca cn cc,B o.dG] 173);have HX:=ag X;have HM:=ag (gJ X.bj o.ch);have dD:=R.lt R.aB.al;unfold pY at hm
 cases gv:cZ S o.ch with
 |false=>
  rw[aF gv]at hm
  cases hm;rw[gv]at HM;clear R X gv;go_enter func145,ntmps145;go_wp2_with (go_at_call 138;refine HM.out.mono ?_;rintro e w' ⟨rfl,rfl⟩);go_ret;exact⟨rfl,HX.out.at_⟩
 |true=>
  rw[aE (by simp[gv])]at hm;rw[gv]at HM;simp only[bW,cI]at hm;obtain⟨⟨c,r⟩,tS,hm⟩:=hm;obtain⟨hc,hr⟩:=kx tS;clear tS;obtain⟨rr,rb,pL,fA,c5,cp⟩:=R.iJ hr;obtain⟨Hw,gr,a,cc',hh,k0,k1,k2,_⟩:=R.eU hr;rw[fA]at gr
  cases gr;have O8:=R.lt pL;have wU:=R.lt fA;have gm:c<S.au.length:=cA hr;have hs:IntKind.i64.wrap ((c:Int)+1-1)=(c:Int):=by rw[jX _ (by omega)];omega
  have c8:=R.dR;obtain⟨n,hn⟩:=dC (r.places.length);unfold Ring.room at hm;rw[←hn]at k0 hm;obtain⟨HR,uv,HC⟩:=ij hr fA hc;by_cases hp:(0:Int)<(n:Int)
  ·rw[aF hp]at hm;have vT:0<n:=by omega
   obtain⟨f,hf⟩:=dC (r.full);rw[←hf]at hm;have HF:=ag hf;rw[hc]at HM HX ⊢;rw[hc]at X bO;clear R hr pL fA hh hn gv hc hf X;go_enter func145,ntmps145;go_wp2_with (go_at_call 138;refine HM.out.mono ?_;rintro e w' ⟨rfl,rfl⟩);go_quiet (fail);go_wp2_with (first|(go_at_call 53;go_in)|(go_at_call 204;refine(SP (af:=af) (F:=F) (m0:=m) (w0:=w) (m:=m) (L:=[]) (i:=c) (S:=S) ?_ HR.out uv.out).mono ?_;exact(HX.out.less (fun p hp=>by cases hp)).aI;rw[←HF.out];rintro e w2 ⟨rfl,X2⟩;have tm:=ag X2;clear X2));go_ret
   cases hm;exact⟨rfl,tm.out.at_⟩
  ·rw[aE hp]at hm;obtain rfl:n=0:=by omega
   obtain⟨q,hq⟩:=dC (S.aw.len (2*o.ch-2));rw[←hq]at hm;have HQ:=ag hq;obtain⟨o1,ho1⟩:∃o1:cu,o1={o with ch:=(c:Int)+1}:=⟨_,rfl⟩;have hoe:o={o with ch:=(c:Int)+1}:=(by rw[←hc]);have HOE:=ag hoe;have Tg: -1000000000≤({o with ch:=(c:Int)+1}:cu).ch∧({o with ch:=(c:Int)+1}:cu).ch≤1000000000:=(by rw[←hoe];exact bO);rw[hc]at HM HX HQ ⊢;rw[hc]at bO;have WG:=ag Tg;clear R hr pL fA hh hn gv hc X hq hoe ho1 Tg;go_enter func145,ntmps145;go_wp2_with (go_at_call 138;refine HM.out.mono ?_;rintro e w' ⟨rfl,rfl⟩);go_quiet (fail);go_wp2_with (go_at_call 53;go_in);go_region_with (first|(go_at_call 97;refine(uf (af:=af) (F:=F) (m0:=m) (w0:=w) (m:=m) (L:=[(w.heap.size,.cells #[.pointer (some ⟨F.al,0,none⟩),I g,I o.ai,I ((c:Int)+1),I o.n,I o.v,.slice ca cn cc,B o.dG] 173)]) (S:=S) ?_ g {o with ch:=(c:Int)+1} WG.out ca cn cc).mono ?_;exact HX.out.aI;rintro e w2 ⟨rfl,X2⟩;obtain⟨p0,p1,p2,p3,p4,p5,p6,p7⟩:=jo X2.head;have d8:=X2.bj.dR;have tm:=ag X2;clear X2)|(go_at_call 205;refine(Tf (af:=af) (F:=F) (m0:=m) (w0:=w) (m:=m) (L:=[(w.heap.size,.cells #[.pointer (some ⟨F.al,0,none⟩),I g,I o.ai,I ((c:Int)+1),I o.n,I o.v,.slice ca cn cc,B o.dG] 173)]) (S:=S) ?_ _).mono ?_;exact tm.out.aI;rw[←HQ.out];rintro e w3 ⟨rfl,X3⟩;have oh:=ag X3;clear X3))
   all_goals
    go_wp2;go_ret
    cases hm;exact⟨rfl,oh.out.at_.aI⟩
theorem KE(X:AB af F m0 w0 m w S L)(g:Nat)(o:cu)(bO:eX o.ch)(ca:Option Addr)(cn cc:Nat){b:Bool}(hm:pY S o.ch=some b):Calls prog 145 #[.agg #[.pointer (some ⟨F.al,0,none⟩),I g,I o.ai,I o.ch,I o.n,I o.v,.slice ca cn cc,B o.dG]] w (eL (.bool b) fun w'=>AB af F m0 w0 m w' S L):=
 (Mq X.bj g o bO ca cn cc b hm).mono fun e w' ⟨h1,h2⟩=>⟨h1,X.av h2⟩
theorem qS(X:AB af F m0 w0 m w S L)(aG:Good S)(g:Nat)(o:cu)(bO:eX o.ch)(ca:Option Addr)(cn cc:Nat):Calls prog 147 #[.agg #[.pointer (some ⟨F.al,0,none⟩),I g,I o.ai,I o.ch,I o.n,I o.v,.slice ca cn cc,B o.dG]] w (eL (.bool (dK S o.ch)) fun w'=>AB af F m0 w0 m w' S L):=
 (Dd X.bj aG g o bO ca cn cc).mono fun e w' ⟨h1,h2⟩=>⟨h1,X.av h2⟩
theorem Ja(R:bz af F w m S)(g:Nat)(o:cu)(bO:eX o.ch)(ca:Option Addr)(cn cc:Nat)(S':Wd)(hm:ll S g o.ch=some S'):Calls prog 93 #[.agg #[.pointer (some ⟨F.al,0,none⟩),I g,I o.ai,I o.ch,I o.n,I o.v,.slice ca cn cc,B o.dG]] w (ee fun w'=>At af F m w m w' S'):=by
 have HX:=ag ((AB.iU R).alloc (iY F g o ca cn cc));unfold ll at hm;simp only[bW,cI]at hm;obtain⟨b,hb,hm⟩:=hm;have HB:=ag hb
 cases b with
 |true=>
  rw[aF rfl]at hm;obtain⟨x,hx,rfl⟩:=dr hm;have HG:=ag hx;clear R hm hb hx;go_enter func93,ntmps93;go_wp2_with (first|(go_at_call 145;refine(KE (af:=af) (F:=F) (m0:=m) (w0:=w) (m:=m) (L:=[(w.heap.size,iY F g o ca cn cc)]) (S:=S) ?_ g o bO ca cn cc HB.out).mono ?_;exact HX.out;rintro e wN ⟨rfl,X⟩;have RN:=X.bj;obtain⟨p0,p1,p2,p3,p4,p5,p6,p7⟩:=jo X.head;have tm:=ag X;clear X RN)|(go_at_call 98;refine(ig (af:=af) (F:=F) (m0:=m) (w0:=w) (m:=m) (L:=[(w.heap.size,iY F g o ca cn cc)]) (S:=S) ?_ g HG.out o ca cn cc 4).mono ?_;exact tm.out;rintro e wN ⟨rfl,X⟩;have RN:=X.bj;have oh:=ag X;clear X RN));refine bodyPost_ret (results_none rfl _ _ _) rfl ?_;exact⟨rfl,oh.out.at_⟩
 |false=>
  rw[aE (by simp)]at hm;unfold fL at hm
  cases hx:S.gs[g]? with
  |none=>rw[hx]at hm;cases hm
  |some x=>
   rw[hx]at hm
   cases hm;have HG:=ag hx;have eM:=cA hx;clear R hb hx;go_enter func93,ntmps93;go_wp2_with (go_at_call 145;refine(KE (af:=af) (F:=F) (m0:=m) (w0:=w) (m:=m) (L:=[(w.heap.size,iY F g o ca cn cc)]) (S:=S) ?_ g o bO ca cn cc HB.out).mono ?_;exact HX.out;rintro e wN ⟨rfl,X⟩;have RN:=X.bj;obtain⟨p0,p1,p2,p3,p4,p5,p6,p7⟩:=jo X.head;have e2:=RN.dM;have tm:=ag X;clear X RN);go_region_with (go_at_call 146;refine(pn (af:=af) (F:=F) (m0:=m) (w0:=w) (m:=m) (L:=[(w.heap.size,iY F g o ca cn cc)]) (S:=S) ?_ g HG.out o ca cn cc).mono ?_;exact tm.out.aI;rintro e wN ⟨rfl,X⟩;have RN:=X.bj;obtain⟨p0,p1,p2,p3,p4,p5,p6,p7⟩:=jo X.head;have d2:=RN.dM;have d3:=RN.eu;have g12:=RN.g HG.out 12 _ rfl;have PM:=RN.frozen RN.aB.gs (g*25+12);have nb:=X.ne RN.aB.gs;have Kn:=nb.symm;have oh:=ag X;clear X RN)
   all_goals
    have X4:=(oh.out.aI (w':=_) rfl rfl rfl rfl).g HG.out {x with point:=S.av} (q:=12) (v:=I S.av);have ux:=ag X4;clear X4;go_wp2_with (go_at_call 98;refine(ig (af:=af) (F:=F) (m0:=m) (w0:=w) (m:=m) (L:=[(w.heap.size,iY F g o ca cn cc)]) (S:=S.ay g {x with point:=S.av}) ?_ g (az HG.out) o ca cn cc 2).mono ?_;exact ux.out.aI;rintro e wN ⟨rfl,X⟩;have RN:=X.bj;have ub:=ag X;clear X RN);go_end0;exact⟨rfl,ub.out.at_.eq aA⟩
theorem F4(R:bz af F w m S)(aG:Good S)(g:Nat)(o:cu)(bO:eX o.ch)(ca:Option Addr)(cn cc:Nat)(S':Wd)(hm:jG S g o.ch=some S'):Calls prog 94 #[.agg #[.pointer (some ⟨F.al,0,none⟩),I g,I o.ai,I o.ch,I o.n,I o.v,.slice ca cn cc,B o.dG]] w (ee fun w'=>At af F m w m w' S'):=by
 have HX:=ag ((AB.iU R).alloc (iY F g o ca cn cc));have ie:=ag aG;unfold jG fL at hm
 cases hx:S.gs[g]? with
 |none=>rw[hx]at hm;simp at hm
 |some x=>
  have HG:=ag hx;rw[hx]at hm;obtain⟨b,hb⟩:∃b,dK S o.ch=b:=⟨_,rfl⟩;rw[hb]at hm;have HB:=ag hb
  cases b with
  |true=>
   rw[aF rfl]at hm
   cases hm;clear R hb hx aG;go_enter func94,ntmps94;go_wp2_with (first|(go_at_call 147;refine(qS (af:=af) (F:=F) (m0:=m) (w0:=w) (m:=m) (L:=[(w.heap.size,iY F g o ca cn cc)]) (S:=S) ?_ ie.out g o bO ca cn cc).mono ?_;exact HX.out;rw[HB.out];rintro e wN ⟨rfl,X⟩;have RN:=X.bj;obtain⟨p0,p1,p2,p3,p4,p5,p6,p7⟩:=jo X.head;have tm:=ag X;clear X RN)|(go_at_call 146;refine(pn (af:=af) (F:=F) (m0:=m) (w0:=w) (m:=m) (L:=[(w.heap.size,iY F g o ca cn cc)]) (S:=S) ?_ g HG.out o ca cn cc).mono ?_;exact tm.out;rintro e wN ⟨rfl,X⟩;have RN:=X.bj;obtain⟨p0,p1,p2,p3,p4,p5,p6,p7⟩:=jo X.head;have g12:=RN.g HG.out 12 _ rfl;have PM:=RN.frozen RN.aB.gs (g*25+12);have nb:=X.ne RN.aB.gs;have Kn:=nb.symm;have X4:=X.g HG.out {x with point:=0} (q:=12) (v:=I 0);have ux:=ag X4;clear X4;have oh:=ag X;clear X RN)|(go_at_call 98;refine(ig (af:=af) (F:=F) (m0:=m) (w0:=w) (m:=m) (L:=[(w.heap.size,iY F g o ca cn cc)]) (S:=S.ay g {x with point:=0}) ?_ g (az HG.out) o ca cn cc 4).mono ?_;exact ux.out;rintro e wN ⟨rfl,X⟩;have RN:=X.bj;have ub:=ag X;clear X RN))
   refine bodyPost_ret (results_none rfl _ _ _) rfl ?_;exact⟨rfl,ub.out.at_.eq aA⟩
  |false=>
   rw[aE (by simp)]at hm
   cases hm;clear R hb hx aG;go_enter func94,ntmps94;go_wp2_with (first|(go_at_call 147;refine(qS (af:=af) (F:=F) (m0:=m) (w0:=w) (m:=m) (L:=[(w.heap.size,iY F g o ca cn cc)]) (S:=S) ?_ ie.out g o bO ca cn cc).mono ?_;exact HX.out;rw[HB.out];rintro e wN ⟨rfl,X⟩;have RN:=X.bj;obtain⟨p0,p1,p2,p3,p4,p5,p6,p7⟩:=jo X.head;have tm:=ag X;clear X RN)|(go_at_call 146;refine(pn (af:=af) (F:=F) (m0:=m) (w0:=w) (m:=m) (L:=[(w.heap.size,iY F g o ca cn cc)]) (S:=S) ?_ g HG.out o ca cn cc).mono ?_;exact tm.out;rintro e wN ⟨rfl,X⟩;have RN:=X.bj;obtain⟨p0,p1,p2,p3,p4,p5,p6,p7⟩:=jo X.head;have g15:=RN.g HG.out 15 _ rfl;have ZB:=RN.frozen RN.aB.gs (g*25+15);have nb:=X.ne RN.aB.gs;have Kn:=nb.symm;have X4:=X.g HG.out {x with res:={x.res with aJ:=2}} (q:=15) (v:=I 2);have ux:=ag X4;clear X4;have oh:=ag X;clear X RN)|(go_at_call 98;refine(ig (af:=af) (F:=F) (m0:=m) (w0:=w) (m:=m) (L:=[(w.heap.size,iY F g o ca cn cc)]) (S:=S.ay g {x with res:={x.res with aJ:=2}}) ?_ g (az HG.out) o ca cn cc 18).mono ?_;exact ux.out;rintro e wN ⟨rfl,X⟩;have RN:=X.bj;have ub:=ag X;clear X RN))
   go_end0;exact⟨rfl,ub.out.at_.eq aA⟩
theorem F5(R:bz af F w m S)(aG:Good S)(g:Nat)(o:cu)(bO:eX o.ch)(ca:Option Addr)(cn cc:Nat)(S':Wd)(hm:jH S g o.ch=some S'):Calls prog 95 #[.agg #[.pointer (some ⟨F.al,0,none⟩),I g,I o.ai,I o.ch,I o.n,I o.v,.slice ca cn cc,B o.dG]] w (ee fun w'=>At af F m w m w' S'):=by
 have HX:=ag ((AB.iU R).alloc (iY F g o ca cn cc));have ie:=ag aG;unfold jH fL at hm;obtain⟨b,hb⟩:∃b,dK S o.ch=b:=⟨_,rfl⟩;rw[hb]at hm;have HB:=ag hb
 cases b with
 |false=>
  rw[aE (by simp)]at hm;obtain⟨x,hx,rfl⟩:=dr hm;have HG:=ag hx;clear R hm hb hx aG;go_enter func95,ntmps95;go_wp2_with (first|(go_at_call 147;refine(qS (af:=af) (F:=F) (m0:=m) (w0:=w) (m:=m) (L:=[(w.heap.size,iY F g o ca cn cc)]) (S:=S) ?_ ie.out g o bO ca cn cc).mono ?_;exact HX.out;rw[HB.out];rintro e wN ⟨rfl,X⟩;have RN:=X.bj;obtain⟨p0,p1,p2,p3,p4,p5,p6,p7⟩:=jo X.head;have tm:=ag X;clear X RN)|(go_at_call 98;refine(ig (af:=af) (F:=F) (m0:=m) (w0:=w) (m:=m) (L:=[(w.heap.size,iY F g o ca cn cc)]) (S:=S) ?_ g HG.out o ca cn cc 6).mono ?_;exact tm.out;rintro e wN ⟨rfl,X⟩;have RN:=X.bj;have oh:=ag X;clear X RN));refine bodyPost_ret (results_none rfl _ _ _) rfl ?_;exact⟨rfl,oh.out.at_⟩
 |true=>
  rw[aF rfl]at hm
  cases hx:S.gs[g]? with
  |none=>rw[hx]at hm;simp at hm
  |some x=>
   have HG:=ag hx;rw[hx]at hm
   cases hm;have nU:Hid ((S.ay g {x with res:=bZ 3}).gs[g]?=some {x with res:=bZ 3}):=az hx
   clear R hb hx aG;go_enter func95,ntmps95;go_wp2_with (first|(go_at_call 147;refine(qS (af:=af) (F:=F) (m0:=m) (w0:=w) (m:=m) (L:=[(w.heap.size,iY F g o ca cn cc)]) (S:=S) ?_ ie.out g o bO ca cn cc).mono ?_;exact HX.out;rw[HB.out];rintro e wN ⟨rfl,X⟩;have RN:=X.bj;obtain⟨p0,p1,p2,p3,p4,p5,p6,p7⟩:=jo X.head;have tm:=ag X;clear X RN)|(go_at_call 148;refine(mG (af:=af) (F:=F) (m0:=m) (w0:=w) (m:=m) (L:=[(w.heap.size,iY F g o ca cn cc)]) (S:=S) ?_ g HG.out o ca cn cc 3).mono ?_;exact tm.out;rintro e wN ⟨rfl,X⟩;have RN:=X.bj;obtain⟨p0,p1,p2,p3,p4,p5,p6,p7⟩:=jo X.head;have e2:=RN.dM;have oh:=ag X;clear X RN));go_region_with (go_at_call 146;refine(pn (af:=af) (F:=F) (m0:=m) (w0:=w) (m:=m) (L:=[(w.heap.size,iY F g o ca cn cc)]) (S:=S.ay g {x with res:=bZ 3}) ?_ g nU.out o ca cn cc).mono ?_;exact oh.out.aI;rintro e wN ⟨rfl,X⟩;have RN:=X.bj;obtain⟨p0,p1,p2,p3,p4,p5,p6,p7⟩:=jo X.head;have d2:=RN.dM;have g12:=RN.g nU.out 12 _ rfl;have PM:=RN.frozen RN.aB.gs (g*25+12);have nb:=X.ne RN.aB.gs;have Kn:=nb.symm;have ux:=ag X;clear X RN)
   all_goals
    have X5:=(ux.out.aI (w':=_) rfl rfl rfl rfl).g nU.out {x with res:=bZ 3,point:=S.av} (q:=12) (v:=I S.av);rw[aA]at X5;have ub:=ag X5;clear X5;go_wp2_with (go_at_call 98;refine(ig (af:=af) (F:=F) (m0:=m) (w0:=w) (m:=m) (L:=[(w.heap.size,iY F g o ca cn cc)]) (S:=S.ay g {x with res:=bZ 3,point:=S.av}) ?_ g (az HG.out) o ca cn cc 16).mono ?_;exact ub.out.aI;rintro e wN ⟨rfl,X⟩;have RN:=X.bj;have Hb:=ag X;clear X RN);go_end0;exact⟨rfl,Hb.out.at_.eq aA⟩
end
end Go.Proofs.YtadifmnmfnihdaaGreat
