import Derived.Test.YtadifmnmfnihdaaGreatA12
import Derived.Test.YtadifmnmfnihdaaGreatA19
set_option linter.all false
set_option maxRecDepth 100000
set_option maxHeartbeats 40000000
namespace Go.Proofs.YtadifmnmfnihdaaGreat
open Go.RowKit Mach Go.Proofs.Tryz
section
variable{af:Nat}{F:Fx}{w w0 w':World}{m m0 m':Mem}{S S':Wd}{L:List (Nat×Obj)}
theorem qL{g:Nat}{o:cu}{S':Wd}(hm:jY S g o=some S'):∃S2 ok,(if cZ S o.ch=true then lj S o.ch o.v else some (S,false))=some (S2,ok)∧(if ok=true then fL S2 g fun x=>{x with res:=bZ 1,point:=S2.av,ae:=16}else if o.ai=4 then fL S2 g fun x=>{x with res:=bZ 2,point:=S2.av,ae:=16}else cD S2 g 10)=some S':=by
 unfold jY at hm;simp only[bW]at hm;by_cases h:cZ S o.ch=true
 ·rw[aF h]at hm ⊢;simp only[cI]at hm;obtain⟨⟨S2,ok⟩,h2,hm⟩:=hm;exact⟨S2,ok,h2,hm⟩
 ·rw[aE h]at hm ⊢;exact⟨S,false,rfl,hm⟩
theorem Je(R:bz af F w m S)(aG:Good S)(g:Nat)(o:cu)(bO:eX o.ch)(ca:Option Addr)(cn cc:Nat)(S':Wd)(hm:jY S g o=some S'):Calls prog 101 #[.agg #[.pointer (some ⟨F.al,0,none⟩),I g,I o.ai,I o.ch,I o.n,I o.v,.slice ca cn cc,B o.dG]] w (ee fun w'=>At af F m w m w' S'):=by
 have HX:=ag ((AB.iU R).alloc (iY F g o ca cn cc));obtain⟨S2,ok,h2,hm⟩:=qL hm;unfold fL at hm
 obtain⟨x,hx,Rq⟩:∃x,S2.gs[g]?=some x∧S2.gs=S.gs:=by
  have Rq:S2.gs=S.gs:=by
   split at h2
   ·unfold lj at h2;simp only[bW,cI]at h2;obtain⟨⟨c,r⟩,_,h3⟩:=h2
    cases h3;rfl
   ·cases h2;rfl
  cases hx:S2.gs[g]? with
  |some x=>exact⟨x,rfl,Rq⟩
  |none=>
   rw[cD,fL]at hm;simp[hx]at hm
 have HG:=ag hx;rw[hx]at hm;simp only[km,cD,fL,hx]at hm
 cases gv:cZ S o.ch with
 |false=>
  rw[aE (by simp[gv])]at h2
  cases h2;have HM:=ag (fun n=>Dc HX.out.bj o.ch n);rw[gv]at HM;by_cases hk:o.ai=4
  ·rw[aE (by simp)]at hm;rw[aF hk]at hm;have Eu:(o.ai==4)=true:=by simpa using hk
   cases hm;have nU:Hid (((S).ay g {x with res:=bZ 2}).gs[g]?=some {x with res:=bZ 2}):=az HG.out
   clear R gv hx Rq aG;clear hk;go_enter func101,ntmps101;go_wp2_with fail
   go_quiet ((go_at_call 138;exact Calls.quiet_of_same (HM.out _)));have Th:=HX;go_wp2_with (go_at_call 148;refine(mG (af:=af) (F:=F) (m0:=m) (w0:=w) (m:=m) (L:=[(w.heap.size,iY F g o ca cn cc)]) (S:=S) ?_ g HG.out o ca cn cc 2).mono ?_;exact Th.out.aI;rintro e wN ⟨rfl,X⟩;have RN:=X.bj;obtain⟨p0,p1,p2,p3,p4,p5,p6,p7⟩:=jo X.head;have e2:=RN.dM;have ux:=ag X;clear X RN);go_region_with (go_at_call 146;refine(pn (af:=af) (F:=F) (m0:=m) (w0:=w) (m:=m) (L:=[(w.heap.size,iY F g o ca cn cc)]) (S:=(S).ay g {x with res:=bZ 2}) ?_ g nU.out o ca cn cc).mono ?_;exact ux.out.aI;rintro e wN ⟨rfl,X⟩;have RN:=X.bj;obtain⟨p0,p1,p2,p3,p4,p5,p6,p7⟩:=jo X.head;have d2:=RN.dM;have g12:=RN.g nU.out 12 _ rfl;have PM:=RN.frozen RN.aB.gs (g*25+12);have nb:=X.ne RN.aB.gs;have Kn:=nb.symm;have ub:=ag X;clear X RN)
   all_goals
    have X6:=(ub.out.aI (w':=_) rfl rfl rfl rfl).g nU.out {x with res:=bZ 2,point:=(S).av} (q:=12) (v:=I S.av);rw[aA]at X6;have Hb:=ag X6;clear X6;go_wp2_with (go_at_call 98;refine(ig (af:=af) (F:=F) (m0:=m) (w0:=w) (m:=m) (L:=[(w.heap.size,iY F g o ca cn cc)]) (S:=(S).ay g {x with res:=bZ 2,point:=(S).av}) ?_ g (az HG.out) o ca cn cc 16).mono ?_;exact Hb.out.aI;rintro e wN ⟨rfl,X⟩;have RN:=X.bj;have FO:=ag X;clear X RN);go_end0;exact⟨rfl,FO.out.at_.eq aA⟩
  ·rw[aE (by simp)]at hm;rw[aE hk]at hm;have Eu:(o.ai==4)=false:=by simpa using hk
   cases hm;clear R gv hx Rq aG;clear hk;go_enter func101,ntmps101;go_wp2_with fail
   go_quiet ((go_at_call 138;exact Calls.quiet_of_same (HM.out _)));have Th:=HX;go_wp2_with (go_at_call 98;refine(ig (af:=af) (F:=F) (m0:=m) (w0:=w) (m:=m) (L:=[(w.heap.size,iY F g o ca cn cc)]) (S:=S) ?_ g HG.out o ca cn cc 10).mono ?_;exact Th.out.aI;rintro e wN ⟨rfl,X⟩;have RN:=X.bj;have FO:=ag X;clear X RN);refine bodyPost_ret (results_none rfl _ _ _) rfl ?_;exact⟨rfl,FO.out.at_⟩
 |true=>
  rw[aF gv]at h2;unfold lj at h2;simp only[bW,cI]at h2;obtain⟨⟨c,r⟩,tS,h2⟩:=h2;obtain⟨hc,hr⟩:=kx tS;clear tS;have eK:=aG.au c r hr;obtain⟨rr,rb,pL,fA,c5,cp⟩:=R.iJ hr;have O8:=R.lt pL;have wU:=R.lt fA;have dD:=R.lt R.aB.al;have gm:c<S.au.length:=cA hr;have hs:IntKind.i64.wrap (o.ch-1)=(c:Int):=by rw[jX _ (by omega)];omega
  obtain⟨HR,uv,lP⟩:=ij hr fA eK;obtain⟨w1,jk,X1⟩:∃w1,w1=_∧AB af F m w m w1 S ([(w.heap.size,iY F g o ca cn cc)]):=⟨_,rfl,HX.out⟩;have jc:=ag X1;obtain⟨p0,p1,p2,p3,p4,p5,p6,p7⟩:=jo X1.head;obtain⟨rr',Hw,zz,gr,d5,dp⟩:=X1.bj.iJ hr;rw[pL]at zz;rw[fA]at gr
  cases zz
  cases gr;have HM:=ag (fun n=>Dc X1.bj o.ch n);rw[gv]at HM;clear X1
  cases hp:(r.put o.v).2 with
  |true=>
   have HP:=ag hp;rw[hp]at h2
   cases h2;clear R gv hx Rq aG hr fA pL eK hp hc;rw[aF rfl]at hm
   cases hm;have nU:Hid (((S.dZ c (r.put o.v).1).ay g {x with res:=bZ 1}).gs[g]?=some {x with res:=bZ 1}):=az HG.out
   go_enter func101,ntmps101;go_wp2_with fail
   rw[←jk];clear jk;refine wp_region_still_tail 21 (by kernel_rfl) (by kernel_rfl) ?_;change wpStill _ _ w1.drew (fun a=>wpList _ _ _ _ a w1.drew) _ _;simp only[sS,sX,sU,rC];repeat still_step
   still_call ((HM.out 1).mono fun _ _ h=>h);repeat still_step
   refine wpStill_nil ?_;go_wp2_with (go_at_call 153;refine(DM (af:=af) (F:=F) (m0:=m) (w0:=w) (m:=m) (L:=[(w.heap.size,iY F g o ca cn cc)]) (S:=S) ?_ HR.out uv.out lP.out o.v).mono ?_;exact jc.out.aI;rw[HP.out];rintro e wN ⟨rfl,X⟩;have RN:=X.bj;obtain⟨p0,p1,p2,p3,p4,p5,p6,p7⟩:=jo X.head;have Th:=ag X;clear X RN);go_wp2_with (go_at_call 148;refine(mG (af:=af) (F:=F) (m0:=m) (w0:=w) (m:=m) (L:=[(w.heap.size,iY F g o ca cn cc)]) (S:=S.dZ c (r.put o.v).1) ?_ g HG.out o ca cn cc 1).mono ?_;exact Th.out.aI;rintro e wN ⟨rfl,X⟩;have RN:=X.bj;obtain⟨p0,p1,p2,p3,p4,p5,p6,p7⟩:=jo X.head;have e2:=RN.dM;have ux:=ag X;clear X RN);go_region_with (go_at_call 146;refine(pn (af:=af) (F:=F) (m0:=m) (w0:=w) (m:=m) (L:=[(w.heap.size,iY F g o ca cn cc)]) (S:=(S.dZ c (r.put o.v).1).ay g {x with res:=bZ 1}) ?_ g nU.out o ca cn cc).mono ?_;exact ux.out.aI;rintro e wN ⟨rfl,X⟩;have RN:=X.bj;obtain⟨p0,p1,p2,p3,p4,p5,p6,p7⟩:=jo X.head;have d2:=RN.dM;have g12:=RN.g nU.out 12 _ rfl;have PM:=RN.frozen RN.aB.gs (g*25+12);have nb:=X.ne RN.aB.gs;have Kn:=nb.symm;have ub:=ag X;clear X RN)
   all_goals
    have X6:=(ub.out.aI (w':=_) rfl rfl rfl rfl).g nU.out {x with res:=bZ 1,point:=(S.dZ c (r.put o.v).1).av} (q:=12) (v:=I S.av);rw[aA]at X6;have Hb:=ag X6;clear X6;go_wp2_with (go_at_call 98;refine(ig (af:=af) (F:=F) (m0:=m) (w0:=w) (m:=m) (L:=[(w.heap.size,iY F g o ca cn cc)]) (S:=(S.dZ c (r.put o.v).1).ay g {x with res:=bZ 1,point:=(S.dZ c (r.put o.v).1).av}) ?_ g (az HG.out) o ca cn cc 16).mono ?_;exact Hb.out.aI;rintro e wN ⟨rfl,X⟩;have RN:=X.bj;have FO:=ag X;clear X RN);go_end0;exact⟨rfl,FO.out.at_.eq aA⟩
  |false=>
   have HP:=ag hp;rw[hp]at h2
   cases h2;clear R gv hx Rq aG hr fA pL eK hp hc;by_cases hk:o.ai=4
   ·rw[aE (by simp)]at hm;rw[aF hk]at hm;have Eu:(o.ai==4)=true:=by simpa using hk
    cases hm;have nU:Hid (((S.dZ c (r.put o.v).1).ay g {x with res:=bZ 2}).gs[g]?=some {x with res:=bZ 2}):=az HG.out
    clear hk;go_enter func101,ntmps101;go_wp2_with fail
    rw[←jk];clear jk;refine wp_region_still_tail 21 (by kernel_rfl) (by kernel_rfl) ?_;change wpStill _ _ w1.drew (fun a=>wpList _ _ _ _ a w1.drew) _ _;simp only[sS,sX,sU,rC];repeat still_step
    still_call ((HM.out 1).mono fun _ _ h=>h);repeat still_step
    refine wpStill_nil ?_;go_wp2_with (go_at_call 153;refine(DM (af:=af) (F:=F) (m0:=m) (w0:=w) (m:=m) (L:=[(w.heap.size,iY F g o ca cn cc)]) (S:=S) ?_ HR.out uv.out lP.out o.v).mono ?_;exact jc.out.aI;rw[HP.out];rintro e wN ⟨rfl,X⟩;have RN:=X.bj;obtain⟨p0,p1,p2,p3,p4,p5,p6,p7⟩:=jo X.head;have Th:=ag X;clear X RN);go_wp2_with (go_at_call 148;refine(mG (af:=af) (F:=F) (m0:=m) (w0:=w) (m:=m) (L:=[(w.heap.size,iY F g o ca cn cc)]) (S:=S.dZ c (r.put o.v).1) ?_ g HG.out o ca cn cc 2).mono ?_;exact Th.out.aI;rintro e wN ⟨rfl,X⟩;have RN:=X.bj;obtain⟨p0,p1,p2,p3,p4,p5,p6,p7⟩:=jo X.head;have e2:=RN.dM;have ux:=ag X;clear X RN);go_region_with (go_at_call 146;refine(pn (af:=af) (F:=F) (m0:=m) (w0:=w) (m:=m) (L:=[(w.heap.size,iY F g o ca cn cc)]) (S:=(S.dZ c (r.put o.v).1).ay g {x with res:=bZ 2}) ?_ g nU.out o ca cn cc).mono ?_;exact ux.out.aI;rintro e wN ⟨rfl,X⟩;have RN:=X.bj;obtain⟨p0,p1,p2,p3,p4,p5,p6,p7⟩:=jo X.head;have d2:=RN.dM;have g12:=RN.g nU.out 12 _ rfl;have PM:=RN.frozen RN.aB.gs (g*25+12);have nb:=X.ne RN.aB.gs;have Kn:=nb.symm;have ub:=ag X;clear X RN)
    all_goals
     have X6:=(ub.out.aI (w':=_) rfl rfl rfl rfl).g nU.out {x with res:=bZ 2,point:=(S.dZ c (r.put o.v).1).av} (q:=12) (v:=I S.av);rw[aA]at X6;have Hb:=ag X6;clear X6;go_wp2_with (go_at_call 98;refine(ig (af:=af) (F:=F) (m0:=m) (w0:=w) (m:=m) (L:=[(w.heap.size,iY F g o ca cn cc)]) (S:=(S.dZ c (r.put o.v).1).ay g {x with res:=bZ 2,point:=(S.dZ c (r.put o.v).1).av}) ?_ g (az HG.out) o ca cn cc 16).mono ?_;exact Hb.out.aI;rintro e wN ⟨rfl,X⟩;have RN:=X.bj;have FO:=ag X;clear X RN);go_end0;exact⟨rfl,FO.out.at_.eq aA⟩
   ·rw[aE (by simp)]at hm;rw[aE hk]at hm;have Eu:(o.ai==4)=false:=by simpa using hk
    cases hm;clear hk;go_enter func101,ntmps101;go_wp2_with fail
    rw[←jk];clear jk;refine wp_region_still_tail 21 (by kernel_rfl) (by kernel_rfl) ?_;change wpStill _ _ w1.drew (fun a=>wpList _ _ _ _ a w1.drew) _ _;simp only[sS,sX,sU,rC];repeat still_step
    still_call ((HM.out 1).mono fun _ _ h=>h);repeat still_step
    refine wpStill_nil ?_;go_wp2_with (go_at_call 153;refine(DM (af:=af) (F:=F) (m0:=m) (w0:=w) (m:=m) (L:=[(w.heap.size,iY F g o ca cn cc)]) (S:=S) ?_ HR.out uv.out lP.out o.v).mono ?_;exact jc.out.aI;rw[HP.out];rintro e wN ⟨rfl,X⟩;have RN:=X.bj;obtain⟨p0,p1,p2,p3,p4,p5,p6,p7⟩:=jo X.head;have Th:=ag X;clear X RN);go_wp2_with (go_at_call 98;refine(ig (af:=af) (F:=F) (m0:=m) (w0:=w) (m:=m) (L:=[(w.heap.size,iY F g o ca cn cc)]) (S:=S.dZ c (r.put o.v).1) ?_ g HG.out o ca cn cc 10).mono ?_;exact Th.out.aI;rintro e wN ⟨rfl,X⟩;have RN:=X.bj;have FO:=ag X;clear X RN);refine bodyPost_ret (results_none rfl _ _ _) rfl ?_;exact⟨rfl,FO.out.at_⟩
end
end Go.Proofs.YtadifmnmfnihdaaGreat
