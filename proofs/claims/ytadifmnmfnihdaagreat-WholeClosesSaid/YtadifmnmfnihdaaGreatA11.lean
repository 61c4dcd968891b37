import Derived.Test.YtadifmnmfnihdaaGreatA05
set_option linter.all false
set_option maxRecDepth 100000
set_option maxHeartbeats 40000000
namespace Go.Proofs.YtadifmnmfnihdaaGreat
open Go.RowKit Mach Go.Proofs.Tryz
section
variable{af:Nat}{F:Fx}{w w0 w':World}{m m0 m':Mem}{S S':Wd}{L:List (Nat×Obj)}
section
variable(X:AB af F m0 w0 m w S L)
include X
theorem u7{x:Int}{S':Wd}(h:fZ S x=some S'):Calls prog 150 #[.pointer (some ⟨F.aw,0,none⟩),I x] w fun e w'=>(∃b,e=.returned (.bool b))∧AB af F m0 w0 m w' S' L:=
 (kv (At.refl X.bj) h).mono fun e w' ⟨h1,h2⟩=>⟨h1,X.av h2⟩
theorem zy{k x:Int}{S':Wd}(h:lh S k x=some S'):Calls prog 103 #[.pointer (some ⟨F.aw,0,none⟩),I k,I x] w fun e w'=>(∃b,e=.returned (.bool b))∧AB af F m0 w0 m w' S' L:=
 (yZ (At.refl X.bj) h).mono fun e w' ⟨h1,h2⟩=>⟨h1,X.av h2⟩
theorem vj{g s:Nat}{d:Bool}{S':Wd}(hm:Mach.serve S g s d=some S'):Calls prog 152 #[bR F,I g,I s,.bool d] w (ee fun w'=>∃m',AB af F m0 w0 m' w' S' L):=
 (yT X.bj g s d S' hm).mono fun e w' ⟨h1,m',h2⟩=>⟨h1,m',X.av h2⟩
theorem DM{i rb:Nat}{r:Ring}(h:S.au[i]?=some r)(fA:m.aV (.eU i)=some rb)(ok:r.Ok)(v:Int):Calls prog 153 #[.pointer (some ⟨rb,0,none⟩),I v] w (eL (.bool (r.put v).2) fun w'=>AB af F m0 w0 m w' (S.dZ i (r.put v).1) L):=
 (N1 X.bj h fA ok v).mono fun e w' ⟨h1,h2⟩=>⟨h1,X.av h2⟩
end
section
variable(R:bz af F w m S)(g:Nat)(o:cu)(ca:Option Addr)(cn cc:Nat)
include R g o ca cn cc
theorem Jb(S':Wd)(hm:lu S g=some S'):Calls prog 104 #[.agg #[.pointer (some ⟨F.al,0,none⟩),I g,I o.ai,I o.ch,I o.n,I o.v,.slice ca cn cc,B o.dG]] w (ee fun w'=>At af F m w m w' S'):=by
 have HX:=ag ((AB.iU R).alloc (iY F g o ca cn cc));unfold lu at hm;simp only[bW,cI]at hm;obtain⟨x,hx,s,hs,sd,RY,hm⟩:=hm
 cases hm;have hs:=du hs;obtain⟨HG,HS,qH⟩:=ij hx hs RY;have mj:s<S.ah.length:=cA RY;have c9:=R.ed;have dD:=R.lt R.aB.al;obtain⟨aJ,ic⟩:∃aJ:Int,aJ=if sd.done then 1 else 3:=⟨_,rfl⟩
 have Jc:(if sd.done=true then(1:Int)else 3)=aJ:=ic.symm;rw[Jc];have nU:Hid ((S.ay g {x with res:=bZ aJ}).gs[g]?=some {x with res:=bZ aJ}):=az hx
 cases hd:sd.done with
 |true=>
  have HD:=ag hd;have oF:aJ=1:=by rw[ic,hd];rfl
  subst oF;clear R hx hs RY ic Jc hd;go_enter func104,ntmps104;go_wp2_with fail
  go_region_with (go_at_call 146;refine(pn HX.out.aI g HG o ca cn cc).mono ?_;rintro e wN ⟨rfl,X⟩;have RN:=X.bj;obtain⟨p0,p1,p2,p3,p4,p5,p6,p7⟩:=jo X.head;have d9:=RN.ed;have g7:=RN.g HG 7 _ rfl;rw[HS.out]at g7;have s6:=RN.s qH 6 _ rfl;rw[HD.out]at s6;have tm:=ag X;clear X RN)
  all_goals
   go_wp2_with (first|(go_at_call 148;refine(mG tm.out.aI g HG o ca cn cc 1).mono ?_;rintro e wN ⟨rfl,X⟩;obtain⟨p0,p1,p2,p3,p4,p5,p6,p7⟩:=jo X.head;have oh:=ag X;clear X)|(go_at_call 146;refine(pn (S:=S.ay g {x with res:=bZ 1}) oh g nU o ca cn cc).mono ?_;rintro e wN ⟨rfl,X⟩;have RN:=X.bj;obtain⟨p0,p1,p2,p3,p4,p5,p6,p7⟩:=jo X.head;have k7:=RN.g nU 7 _ rfl;have fk7:=RN.frozen RN.aB.gs (g*25+7);have nb:=X.ne RN.aB.gs;have Kn:=nb.symm;have X4:=X.g nU {x with res:=bZ 1,aN:= -1} (q:=7) (v:=I (-1));rw[aA]at X4;have ux:=ag X4;clear X4;have HX5:=ag X;clear X RN)|(go_at_call 98;refine(ig (S:=S.ay g {x with res:=bZ 1,aN:= -1}) ux g (az HG) o ca cn cc 15).mono ?_;rintro e wN ⟨rfl,X⟩;have Hb:=ag X;clear X));exact bh2
 |false=>
  have HD:=ag hd;have oF:aJ=3:=by rw[ic,hd];rfl
  subst oF;clear R hx hs RY ic Jc hd;go_enter func104,ntmps104;go_wp2_with fail
  go_region_with (go_at_call 146;refine(pn HX.out.aI g HG o ca cn cc).mono ?_;rintro e wN ⟨rfl,X⟩;have RN:=X.bj;obtain⟨p0,p1,p2,p3,p4,p5,p6,p7⟩:=jo X.head;have d9:=RN.ed;have g7:=RN.g HG 7 _ rfl;rw[HS.out]at g7;have s6:=RN.s qH 6 _ rfl;rw[HD.out]at s6;have tm:=ag X;clear X RN)
  all_goals
   go_wp2_with (first|(go_at_call 148;refine(mG tm.out.aI g HG o ca cn cc 3).mono ?_;rintro e wN ⟨rfl,X⟩;obtain⟨p0,p1,p2,p3,p4,p5,p6,p7⟩:=jo X.head;have oh:=ag X;clear X)|(go_at_call 146;refine(pn (S:=S.ay g {x with res:=bZ 3}) oh g nU o ca cn cc).mono ?_;rintro e wN ⟨rfl,X⟩;have RN:=X.bj;obtain⟨p0,p1,p2,p3,p4,p5,p6,p7⟩:=jo X.head;have k7:=RN.g nU 7 _ rfl;have fk7:=RN.frozen RN.aB.gs (g*25+7);have nb:=X.ne RN.aB.gs;have Kn:=nb.symm;have X4:=X.g nU {x with res:=bZ 3,aN:= -1} (q:=7) (v:=I (-1));rw[aA]at X4;have ux:=ag X4;clear X4;have HX5:=ag X;clear X RN)|(go_at_call 98;refine(ig (S:=S.ay g {x with res:=bZ 3,aN:= -1}) ux g (az HG) o ca cn cc 15).mono ?_;rintro e wN ⟨rfl,X⟩;have Hb:=ag X;clear X));exact bh2
theorem Jd(S':Wd)(hm:lp S g o.v=some S'):Calls prog 100 #[.agg #[.pointer (some ⟨F.al,0,none⟩),I g,I o.ai,I o.ch,I o.n,I o.v,.slice ca cn cc,B o.dG]] w (ee (To af F m w S')):=by
 have HX:=ag ((AB.iU R).alloc (iY F g o ca cn cc));unfold lp fL at hm;simp only[bW,cI]at hm;obtain⟨x,hx,s,hs,S2,h2,sd,RY,S3,h3,hm⟩:=hm
 cases nM:S3.gs[g]? with
 |none=>rw[nM]at hm;cases hm
 |some x3=>
  rw[nM]at hm
  cases hm;have hs:=du hs;obtain⟨HG,HS,qH,H2,H3,Ns⟩:=mr hx hs RY h2 h3 nM;have mj:s<S2.ah.length:=cA RY;clear R hx hs RY h2 h3 nM;go_enter func100,ntmps100;go_wp2_with (first|(go_at_call 146;refine(pn HX g HG o ca cn cc).mono ?_;rintro e wN ⟨rfl,X⟩;have RN:=X.bj;obtain⟨p0,p1,p2,p3,p4,p5,p6,p7⟩:=jo X.head;have d8:=RN.dR;have g9:=RN.g HG 9 _ rfl;rw[HS.out]at g9;have tm:=ag X;clear X RN)|(go_at_call 150;refine(u7 tm H2).mono ?_;rintro e wN ⟨⟨bb,rfl⟩,X⟩;have RN:=X.bj;obtain⟨p0,p1,p2,p3,p4,p5,p6,p7⟩:=jo X.head;have e9:=RN.ed;have s5:=RN.s qH 5 _ rfl;have fs5:=RN.frozen RN.aB.ah (s*7+5);have nb:=X.ne RN.aB.ah;have Kn:=nb.symm;have nw:=RN.ne RN.aB.ah RN.aB.al;have nw':=nw.symm;have X4:=X.s qH {sd with v:=o.v} (q:=5) (v:=I o.v) oX rfl;have ux:=ag X4;clear X4;have oh:=ag X;clear X RN))
  go_region
  all_goals
   go_wp2_with (first|(go_at_call 152;refine(vj (S:=S2.cJ s {sd with v:=o.v}) ux.out.aI H3).mono ?_;rintro e wN ⟨rfl,mS,X⟩;obtain⟨p0,p1,p2,p3,p4,p5,p6,p7⟩:=jo X.head;have HX5:=ag X;clear X)|(go_at_call 148;refine(mG (S:=S3) HX5 g Ns o ca cn cc 1).mono ?_;rintro e wN ⟨rfl,X⟩;obtain⟨p0,p1,p2,p3,p4,p5,p6,p7⟩:=jo X.head;have Hb:=ag X;clear X)|(go_at_call 98;refine(ig (S:=S3.ay g {x3 with res:=bZ 1}) Hb g (az Ns) o ca cn cc 16).mono ?_;rintro e wN ⟨rfl,X⟩;have FO:=ag X;clear X));go_end0;exact⟨rfl,_,FO.out.at_.eq aA⟩
end
theorem qL{g:Nat}{o:cu}{S':Wd}(hm:jY S g o=some S'):∃S2 ok,(if cZ S o.ch=true then aH8 S o.ch o.v else some (S,false))=some (S2,ok)∧(if ok=true then fL S2 g fun x=>{x with res:=bZ 1,point:=S2.av,ae:=16}else if o.ai=4 then fL S2 g fun x=>{x with res:=bZ 2,point:=S2.av,ae:=16}else cD S2 g 10)=some S':=by
 unfold jY at hm;simp only[bW]at hm;by_cases h:cZ S o.ch=true
 ·rw[aF h]at hm ⊢;simp only[cI]at hm;obtain⟨⟨S2,ok⟩,h2,hm⟩:=hm;exact⟨S2,ok,h2,hm⟩
 ·rw[aE h]at hm ⊢;exact⟨S,false,rfl,hm⟩
theorem Je(R:bz af F w m S)(aG:Good S)(g:Nat)(o:cu)(bO:eX o.ch)(ca:Option Addr)(cn cc:Nat)(S':Wd)(hm:jY S g o=some S'):Calls prog 101 #[.agg #[.pointer (some ⟨F.al,0,none⟩),I g,I o.ai,I o.ch,I o.n,I o.v,.slice ca cn cc,B o.dG]] w (ee fun w'=>At af F m w m w' S'):=by
 have HX:=ag ((AB.iU R).alloc (iY F g o ca cn cc));obtain⟨S2,ok,h2,hm⟩:=qL hm;unfold fL at hm
 obtain⟨x,hx,Rq⟩:∃x,S2.gs[g]?=some x∧S2.gs=S.gs:=by
  have Rq:S2.gs=S.gs:=by
   split at h2
   ·unfold aH8 at h2;simp only[bW,cI]at h2;obtain⟨⟨c,r⟩,_,h3⟩:=h2
    cases h3;rfl
   ·cases h2;rfl
  cases hx:S2.gs[g]? with
  |some x=>exact⟨x,rfl,Rq⟩
  |none=>
   rw[cD,fL]at hm;simp[hx]at hm
 have HG:=ag hx;rw[hx]at hm;simp only[km,cD,fL,hx]at hm
 cases gv:cZ S o.ch with
 |false=>
  rw[aE (by simp[gv])]at h2
  cases h2;have HM:=ag (fun n=>Dc HX.out.bj o.ch n);rw[gv]at HM;by_cases hk:o.ai=4
  ·rw[aE sX]at hm;rw[aF hk]at hm;have Eu:(o.ai==4)=true:=by simpa using hk
   cases hm;have nU:Hid (((S).ay g {x with res:=bZ 2}).gs[g]?=some {x with res:=bZ 2}):=az HG
   clear R gv hx Rq aG;clear hk;go_enter func101,ntmps101;go_wp2_with fail
   go_quiet ((go_at_call 138;exact Calls.quiet_of_same (HM _)));have Th:=HX;go_wp2_with (go_at_call 148;refine(mG Th.out.aI g HG o ca cn cc 2).mono ?_;rintro e wN ⟨rfl,X⟩;have RN:=X.bj;obtain⟨p0,p1,p2,p3,p4,p5,p6,p7⟩:=jo X.head;have e2:=RN.dM;have ux:=ag X;clear X RN);go_region_with (go_at_call 146;refine(pn (S:=(S).ay g {x with res:=bZ 2}) ux.out.aI g nU o ca cn cc).mono ?_;rintro e wN ⟨rfl,X⟩;have RN:=X.bj;obtain⟨p0,p1,p2,p3,p4,p5,p6,p7⟩:=jo X.head;have d2:=RN.dM;have g12:=RN.g nU 12 _ rfl;have PM:=RN.frozen RN.aB.gs (g*25+12);have nb:=X.ne RN.aB.gs;have Kn:=nb.symm;have HX5:=ag X;clear X RN)
   all_goals
    have X6:=(HX5.out.aI (w':=_) rfl rfl rfl rfl).g nU {x with res:=bZ 2,point:=(S).av} (q:=12) (v:=I S.av);rw[aA]at X6;have Hb:=ag X6;clear X6;go_wp2_with (go_at_call 98;refine(ig (S:=(S).ay g {x with res:=bZ 2,point:=(S).av}) Hb.out.aI g (az HG) o ca cn cc 16).mono ?_;rintro e wN ⟨rfl,X⟩;have FO:=ag X;clear X);exact bh3
  ·rw[aE sX]at hm;rw[aE hk]at hm;have Eu:(o.ai==4)=false:=by simpa using hk
   cases hm;clear R gv hx Rq aG;clear hk;go_enter func101,ntmps101;go_wp2_with fail
   go_quiet ((go_at_call 138;exact Calls.quiet_of_same (HM _)));have Th:=HX;go_wp2_with (go_at_call 98;refine(ig Th.out.aI g HG o ca cn cc 10).mono ?_;rintro e wN ⟨rfl,X⟩;have FO:=ag X;clear X);refine bodyPost_ret (results_none rfl _ _ _) rfl ?_;exact⟨rfl,FO.out.at_⟩
 |true=>
  rw[aF gv]at h2;unfold aH8 at h2;simp only[bW,cI]at h2;obtain⟨⟨c,r⟩,tS,h2⟩:=h2;obtain⟨hc,hr⟩:=kx tS;clear tS;have eK:=aG.au c r hr;obtain⟨rr,rb,pL,fA,c5,cp⟩:=R.iJ hr;have O8:=R.lt pL;have wU:=R.lt fA;have dD:=R.lt R.aB.al;have gm:c<S.au.length:=cA hr;have hs:IntKind.i64.wrap (o.ch-1)=(c:Int):=bv4
  obtain⟨HR,uv,lP⟩:=ij hr fA eK;obtain⟨w1,jk,X1⟩:∃w1,w1=_∧AB af F m w m w1 S ([(w.heap.size,iY F g o ca cn cc)]):=⟨_,rfl,HX⟩;have jc:=ag X1;obtain⟨p0,p1,p2,p3,p4,p5,p6,p7⟩:=jo X1.head;obtain⟨rr',Hw,zz,gr,d5,dp⟩:=X1.bj.iJ hr;rw[pL]at zz;rw[fA]at gr
  cases zz
  cases gr;have HM:=ag (fun n=>Dc X1.bj o.ch n);rw[gv]at HM;clear X1
  cases hp:(r.put o.v).2 with
  |true=>
   have HP:=ag hp;rw[hp]at h2
   cases h2;clear R gv hx Rq aG hr fA pL eK hp hc;rw[aF rfl]at hm
   cases hm;have nU:Hid (((S.dZ c (r.put o.v).1).ay g {x with res:=bZ 1}).gs[g]?=some {x with res:=bZ 1}):=az HG
   go_enter func101,ntmps101;go_wp2_with fail
   rw[←jk];clear jk;refine wp_region_still_tail 21 kX kX ?_;change wpStill _ _ w1.drew (fun a=>wpList _ _ _ _ a w1.drew) _ _;simp only[sS,aW1,sU,rC];repeat still_step
   still_call ((HM 1).mono fun _ _ h=>h);repeat still_step
   refine wpStill_nil ?_;go_wp2_with (go_at_call 153;refine(DM jc.out.aI HR uv lP o.v).mono ?_;rw[HP.out];rintro e wN ⟨rfl,X⟩;obtain⟨p0,p1,p2,p3,p4,p5,p6,p7⟩:=jo X.head;have Th:=ag X;clear X);go_wp2_with (go_at_call 148;refine(mG (S:=S.dZ c (r.put o.v).1) Th.out.aI g HG o ca cn cc 1).mono ?_;rintro e wN ⟨rfl,X⟩;have RN:=X.bj;obtain⟨p0,p1,p2,p3,p4,p5,p6,p7⟩:=jo X.head;have e2:=RN.dM;have ux:=ag X;clear X RN);go_region_with (go_at_call 146;refine(pn (S:=(S.dZ c (r.put o.v).1).ay g {x with res:=bZ 1}) ux.out.aI g nU o ca cn cc).mono ?_;rintro e wN ⟨rfl,X⟩;have RN:=X.bj;obtain⟨p0,p1,p2,p3,p4,p5,p6,p7⟩:=jo X.head;have d2:=RN.dM;have g12:=RN.g nU 12 _ rfl;have PM:=RN.frozen RN.aB.gs (g*25+12);have nb:=X.ne RN.aB.gs;have Kn:=nb.symm;have HX5:=ag X;clear X RN)
   all_goals
    have X6:=(HX5.out.aI (w':=_) rfl rfl rfl rfl).g nU {x with res:=bZ 1,point:=(S.dZ c (r.put o.v).1).av} (q:=12) (v:=I S.av);rw[aA]at X6;have Hb:=ag X6;clear X6;go_wp2_with (go_at_call 98;refine(ig (S:=(S.dZ c (r.put o.v).1).ay g {x with res:=bZ 1,point:=(S.dZ c (r.put o.v).1).av}) Hb.out.aI g (az HG) o ca cn cc 16).mono ?_;rintro e wN ⟨rfl,X⟩;have FO:=ag X;clear X);exact bh3
  |false=>
   have HP:=ag hp;rw[hp]at h2
   cases h2;clear R gv hx Rq aG hr fA pL eK hp hc;by_cases hk:o.ai=4
   ·rw[aE sX]at hm;rw[aF hk]at hm;have Eu:(o.ai==4)=true:=by simpa using hk
    cases hm;have nU:Hid (((S.dZ c (r.put o.v).1).ay g {x with res:=bZ 2}).gs[g]?=some {x with res:=bZ 2}):=az HG
    clear hk;go_enter func101,ntmps101;go_wp2_with fail
    rw[←jk];clear jk;refine wp_region_still_tail 21 kX kX ?_;change wpStill _ _ w1.drew (fun a=>wpList _ _ _ _ a w1.drew) _ _;simp only[sS,aW1,sU,rC];repeat still_step
    still_call ((HM 1).mono fun _ _ h=>h);repeat still_step
    refine wpStill_nil ?_;go_wp2_with (go_at_call 153;refine(DM jc.out.aI HR uv lP o.v).mono ?_;rw[HP.out];rintro e wN ⟨rfl,X⟩;obtain⟨p0,p1,p2,p3,p4,p5,p6,p7⟩:=jo X.head;have Th:=ag X;clear X);go_wp2_with (go_at_call 148;refine(mG (S:=S.dZ c (r.put o.v).1) Th.out.aI g HG o ca cn cc 2).mono ?_;rintro e wN ⟨rfl,X⟩;have RN:=X.bj;obtain⟨p0,p1,p2,p3,p4,p5,p6,p7⟩:=jo X.head;have e2:=RN.dM;have ux:=ag X;clear X RN);go_region_with (go_at_call 146;refine(pn (S:=(S.dZ c (r.put o.v).1).ay g {x with res:=bZ 2}) ux.out.aI g nU o ca cn cc).mono ?_;rintro e wN ⟨rfl,X⟩;have RN:=X.bj;obtain⟨p0,p1,p2,p3,p4,p5,p6,p7⟩:=jo X.head;have d2:=RN.dM;have g12:=RN.g nU 12 _ rfl;have PM:=RN.frozen RN.aB.gs (g*25+12);have nb:=X.ne RN.aB.gs;have Kn:=nb.symm;have HX5:=ag X;clear X RN)
    all_goals
     have X6:=(HX5.out.aI (w':=_) rfl rfl rfl rfl).g nU {x with res:=bZ 2,point:=(S.dZ c (r.put o.v).1).av} (q:=12) (v:=I S.av);rw[aA]at X6;have Hb:=ag X6;clear X6;go_wp2_with (go_at_call 98;refine(ig (S:=(S.dZ c (r.put o.v).1).ay g {x with res:=bZ 2,point:=(S.dZ c (r.put o.v).1).av}) Hb.out.aI g (az HG) o ca cn cc 16).mono ?_;rintro e wN ⟨rfl,X⟩;have FO:=ag X;clear X);exact bh3
   ·rw[aE sX]at hm;rw[aE hk]at hm;have Eu:(o.ai==4)=false:=by simpa using hk
    cases hm;clear hk;go_enter func101,ntmps101;go_wp2_with fail
    rw[←jk];clear jk;refine wp_region_still_tail 21 kX kX ?_;change wpStill _ _ w1.drew (fun a=>wpList _ _ _ _ a w1.drew) _ _;simp only[sS,aW1,sU,rC];repeat still_step
    still_call ((HM 1).mono fun _ _ h=>h);repeat still_step
    refine wpStill_nil ?_;go_wp2_with (go_at_call 153;refine(DM jc.out.aI HR uv lP o.v).mono ?_;rw[HP.out];rintro e wN ⟨rfl,X⟩;obtain⟨p0,p1,p2,p3,p4,p5,p6,p7⟩:=jo X.head;have Th:=ag X;clear X);go_wp2_with (go_at_call 98;refine(ig (S:=S.dZ c (r.put o.v).1) Th.out.aI g HG o ca cn cc 10).mono ?_;rintro e wN ⟨rfl,X⟩;have FO:=ag X;clear X);refine bodyPost_ret (results_none rfl _ _ _) rfl ?_;exact⟨rfl,FO.out.at_⟩
end
end Go.Proofs.YtadifmnmfnihdaaGreat
