import Derived.Test.YtadifmnmfnihdaaGreatA05
set_option linter.all false
set_option maxRecDepth 100000
set_option maxHeartbeats 40000000
namespace Go.Proofs.YtadifmnmfnihdaaGreat
open Go.RowKit Mach Go.Proofs.Tryz
section
variable{af:Nat}{F:Fx}{w w0 w':World}{m m0 m':Mem}{S S':Wd}{L:List (Nat×Obj)}
theorem uf(X:AB af F m0 w0 m w S L)(g:Nat)(o:cu)(bO:eX o.ch)(ca:Option Addr)(cn cc:Nat):Calls prog 97 #[.agg #[.pointer (some ⟨F.al,0,none⟩),I g,I o.ai,I o.ch,I o.n,I o.v,.slice ca cn cc,B o.dG]] w (eL (I (2*o.ch-2)) fun w'=>AB af F m0 w0 m w' S L):=by
 have HX:=ag (X.alloc (.cells #[.pointer (some ⟨F.al,0,none⟩),I g,I o.ai,I o.ch,I o.n,I o.v,.slice ca cn cc,B o.dG] 173));clear X;go_enter func97,ntmps97;go_wp2;go_ret;exact⟨rfl,HX.out.less (fun p hp=>nO _ hp)⟩
theorem Tf(X:AB af F m0 w0 m w S L)(k:Int):Calls prog 205 #[.pointer (some ⟨F.aw,0,none⟩),I k] w (eL (I (S.aw.len k)) fun w'=>AB af F m0 w0 m w' S L):=
 (By X.bj k).mono fun e w' ⟨h1,h2⟩=>⟨h1,h2▸X⟩
theorem Mq(R:bz af F w m S)(g:Nat)(o:cu)(bO:eX o.ch)(ca:Option Addr)(cn cc:Nat)(b:Bool)(hm:pY S o.ch=some b):Calls prog 145 #[.agg #[.pointer (some ⟨F.al,0,none⟩),I g,I o.ai,I o.ch,I o.n,I o.v,.slice ca cn cc,B o.dG]] w (eL (.bool b) fun w'=>At af F m w m w' S):=by
 have X:=(AB.iU R).alloc (.cells #[.pointer (some ⟨F.al,0,none⟩),I g,I o.ai,I o.ch,I o.n,I o.v,.slice ca cn cc,B o.dG] 173);have HX:=ag X;have HM:=ag (gJ X.bj o.ch);have dD:=R.lt R.aB.al;unfold pY at hm
 cases gv:cZ S o.ch with
 |false=>
  rw[aF gv]at hm
  cases hm;rw[gv]at HM;clear R X gv;go_enter func145,ntmps145;go_wp2_with (go_at_call 138;refine HM.out.mono ?_;rintro e w' ⟨rfl,rfl⟩);go_ret;exact⟨rfl,HX.out.at_⟩
 |true=>
  rw[aE (by simp[gv])]at hm;rw[gv]at HM;simp only[bW,cI]at hm;obtain⟨⟨c,r⟩,tS,hm⟩:=hm;obtain⟨hc,hr⟩:=kx tS;clear tS;obtain⟨rr,rb,pL,fA,c5,cp⟩:=R.iJ hr;obtain⟨Hw,gr,a,cc',hh,k0,k1,k2,_⟩:=R.eU hr;rw[fA]at gr
  cases gr;have O8:=R.lt pL;have wU:=R.lt fA;have gm:c<S.au.length:=cA hr;have hs:IntKind.i64.wrap ((c:Int)+1-1)=(c:Int):=bv4
  have c8:=R.dR;obtain⟨n,hn⟩:=dC (r.places.length);unfold Ring.room at hm;rw[←hn]at k0 hm;obtain⟨HR,uv,HC⟩:=ij hr fA hc;by_cases hp:(0:Int)<(n:Int)
  ·rw[aF hp]at hm;have vT:0<n:=by omega
   obtain⟨f,hf⟩:=dC (r.full);rw[←hf]at hm;have HF:=ag hf;rw[hc]at HM HX ⊢;rw[hc]at X bO;clear R hr pL fA hh hn gv hc hf X;go_enter func145,ntmps145;go_wp2_with (go_at_call 138;refine HM.out.mono ?_;rintro e w' ⟨rfl,rfl⟩);go_quiet (fail);go_wp2_with (first|(go_at_call 53;go_in)|(go_at_call 204;refine(SP (af:=af) (F:=F) (m0:=m) (w0:=w) (m:=m) (L:=[]) (i:=c) (S:=S) ?_ HR uv).mono ?_;exact(HX.out.less (fun p hp=>by cases hp)).aI;rw[←HF.out];rintro e w2 ⟨rfl,X2⟩;have tm:=ag X2;clear X2));go_ret
   cases hm;exact⟨rfl,tm.out.at_⟩
  ·rw[aE hp]at hm;obtain rfl:n=0:=by omega
   obtain⟨q,hq⟩:=dC (S.aw.len (2*o.ch-2));rw[←hq]at hm;have HQ:=ag hq;obtain⟨o1,ho1⟩:∃o1:cu,o1={o with ch:=(c:Int)+1}:=⟨_,rfl⟩;have hoe:o={o with ch:=(c:Int)+1}:=(by rw[←hc]);have HOE:=ag hoe;have Tg: -1000000000≤({o with ch:=(c:Int)+1}:cu).ch∧({o with ch:=(c:Int)+1}:cu).ch≤1000000000:=(by rw[←hoe];exact bO);rw[hc]at HM HX HQ ⊢;rw[hc]at bO;have WG:=ag Tg;clear R hr pL fA hh hn gv hc X hq hoe ho1 Tg;go_enter func145,ntmps145;go_wp2_with (go_at_call 138;refine HM.out.mono ?_;rintro e w' ⟨rfl,rfl⟩);go_quiet (fail);go_wp2_with (go_at_call 53;go_in);go_region_with (first|(go_at_call 97;refine(uf HX.out.aI g {o with ch:=(c:Int)+1} WG ca cn cc).mono ?_;rintro e w2 ⟨rfl,X2⟩;obtain⟨p0,p1,p2,p3,p4,p5,p6,p7⟩:=jo X2.head;have d8:=X2.bj.dR;have tm:=ag X2;clear X2)|(go_at_call 205;refine(Tf tm.out.aI _).mono ?_;rw[←HQ.out];rintro e w3 ⟨rfl,X3⟩;have oh:=ag X3;clear X3))
   all_goals
    go_wp2;go_ret
    cases hm;exact⟨rfl,oh.out.at_.aI⟩
theorem KE(X:AB af F m0 w0 m w S L)(g:Nat)(o:cu)(bO:eX o.ch)(ca:Option Addr)(cn cc:Nat){b:Bool}(hm:pY S o.ch=some b):Calls prog 145 #[.agg #[.pointer (some ⟨F.al,0,none⟩),I g,I o.ai,I o.ch,I o.n,I o.v,.slice ca cn cc,B o.dG]] w (eL (.bool b) fun w'=>AB af F m0 w0 m w' S L):=
 (Mq X.bj g o bO ca cn cc b hm).mono fun e w' ⟨h1,h2⟩=>⟨h1,X.av h2⟩
theorem qS(X:AB af F m0 w0 m w S L)(aG:Good S)(g:Nat)(o:cu)(bO:eX o.ch)(ca:Option Addr)(cn cc:Nat):Calls prog 147 #[.agg #[.pointer (some ⟨F.al,0,none⟩),I g,I o.ai,I o.ch,I o.n,I o.v,.slice ca cn cc,B o.dG]] w (eL (.bool (dK S o.ch)) fun w'=>AB af F m0 w0 m w' S L):=
 (Dd X.bj aG g o bO ca cn cc).mono fun e w' ⟨h1,h2⟩=>⟨h1,X.av h2⟩
theorem Ja(R:bz af F w m S)(g:Nat)(o:cu)(bO:eX o.ch)(ca:Option Addr)(cn cc:Nat)(S':Wd)(hm:ll S g o.ch=some S'):Calls prog 93 #[.agg #[.pointer (some ⟨F.al,0,none⟩),I g,I o.ai,I o.ch,I o.n,I o.v,.slice ca cn cc,B o.dG]] w (ee fun w'=>At af F m w m w' S'):=by
 have HX:=ag ((AB.iU R).alloc (iY F g o ca cn cc));unfold ll at hm;simp only[bW,cI]at hm;obtain⟨b,hb,hm⟩:=hm;have HB:=ag hb
 cases b with
 |true=>
  rw[aF rfl]at hm;obtain⟨x,hx,rfl⟩:=Nb hm;have HG:=ag hx;clear R hm hb hx;go_enter func93,ntmps93;go_wp2_with (first|(go_at_call 145;refine(KE HX g o bO ca cn cc HB).mono ?_;rintro e wN ⟨rfl,X⟩;obtain⟨p0,p1,p2,p3,p4,p5,p6,p7⟩:=jo X.head;have tm:=ag X;clear X)|(go_at_call 98;refine(ig tm g HG o ca cn cc 4).mono ?_;rintro e wN ⟨rfl,X⟩;have oh:=ag X;clear X));exact bg6
 |false=>
  rw[aE sX]at hm;unfold fL at hm
  cases hx:S.gs[g]? with
  |none=>rw[hx]at hm;cases hm
  |some x=>
   rw[hx]at hm
   cases hm;have HG:=ag hx;have eM:=cA hx;clear R hb hx;go_enter func93,ntmps93;go_wp2_with (go_at_call 145;refine(KE HX g o bO ca cn cc HB).mono ?_;rintro e wN ⟨rfl,X⟩;have RN:=X.bj;obtain⟨p0,p1,p2,p3,p4,p5,p6,p7⟩:=jo X.head;have e2:=RN.dM;have tm:=ag X;clear X RN);go_region_with (go_at_call 146;refine(pn tm.out.aI g HG o ca cn cc).mono ?_;rintro e wN ⟨rfl,X⟩;have RN:=X.bj;obtain⟨p0,p1,p2,p3,p4,p5,p6,p7⟩:=jo X.head;have d2:=RN.dM;have d3:=RN.eu;have g12:=RN.g HG 12 _ rfl;have PM:=RN.frozen RN.aB.gs (g*25+12);have nb:=X.ne RN.aB.gs;have Kn:=nb.symm;have oh:=ag X;clear X RN)
   all_goals
    have X4:=(oh.out.aI (w':=_) rfl rfl rfl rfl).g HG {x with point:=S.av} (q:=12) (v:=I S.av);have ux:=ag X4;clear X4;go_wp2_with (go_at_call 98;refine(ig (S:=S.ay g {x with point:=S.av}) ux.out.aI g (az HG) o ca cn cc 2).mono ?_;rintro e wN ⟨rfl,X⟩;have HX5:=ag X;clear X);go_end0;exact⟨rfl,HX5.out.at_.eq aA⟩
section
variable(R:bz af F w m S)(aG:Good S)(g:Nat)(o:cu)(bO:eX o.ch)(ca:Option Addr)(cn cc:Nat)
include R aG g o bO ca cn cc
theorem F4(S':Wd)(hm:jG S g o.ch=some S'):Calls prog 94 #[.agg #[.pointer (some ⟨F.al,0,none⟩),I g,I o.ai,I o.ch,I o.n,I o.v,.slice ca cn cc,B o.dG]] w (ee fun w'=>At af F m w m w' S'):=by
 have HX:=ag ((AB.iU R).alloc (iY F g o ca cn cc));have ie:=ag aG;unfold jG fL at hm
 cases hx:S.gs[g]? with
 |none=>rw[hx]at hm;simp at hm
 |some x=>
  have HG:=ag hx;rw[hx]at hm;obtain⟨b,hb⟩:∃b,dK S o.ch=b:=⟨_,rfl⟩;rw[hb]at hm;have HB:=ag hb
  cases b with
  |true=>
   rw[aF rfl]at hm
   cases hm;clear R hb hx aG;go_enter func94,ntmps94;go_wp2_with (first|(go_at_call 147;refine(qS HX ie g o bO ca cn cc).mono ?_;rw[HB.out];rintro e wN ⟨rfl,X⟩;obtain⟨p0,p1,p2,p3,p4,p5,p6,p7⟩:=jo X.head;have tm:=ag X;clear X)|(go_at_call 146;refine(pn tm g HG o ca cn cc).mono ?_;rintro e wN ⟨rfl,X⟩;have RN:=X.bj;obtain⟨p0,p1,p2,p3,p4,p5,p6,p7⟩:=jo X.head;have g12:=RN.g HG 12 _ rfl;have PM:=RN.frozen RN.aB.gs (g*25+12);have nb:=X.ne RN.aB.gs;have Kn:=nb.symm;have X4:=X.g HG {x with point:=0} (q:=12) (v:=I 0);have ux:=ag X4;clear X4;have oh:=ag X;clear X RN)|(go_at_call 98;refine(ig (S:=S.ay g {x with point:=0}) ux g (az HG) o ca cn cc 4).mono ?_;rintro e wN ⟨rfl,X⟩;have HX5:=ag X;clear X))
   refine bodyPost_ret (results_none rfl _ _ _) rfl ?_;exact⟨rfl,HX5.out.at_.eq aA⟩
  |false=>
   rw[aE sX]at hm
   cases hm;clear R hb hx aG;go_enter func94,ntmps94;go_wp2_with (first|(go_at_call 147;refine(qS HX ie g o bO ca cn cc).mono ?_;rw[HB.out];rintro e wN ⟨rfl,X⟩;obtain⟨p0,p1,p2,p3,p4,p5,p6,p7⟩:=jo X.head;have tm:=ag X;clear X)|(go_at_call 146;refine(pn tm g HG o ca cn cc).mono ?_;rintro e wN ⟨rfl,X⟩;have RN:=X.bj;obtain⟨p0,p1,p2,p3,p4,p5,p6,p7⟩:=jo X.head;have g15:=RN.g HG 15 _ rfl;have ZB:=RN.frozen RN.aB.gs (g*25+15);have nb:=X.ne RN.aB.gs;have Kn:=nb.symm;have X4:=X.g HG {x with res:={x.res with aJ:=2}} (q:=15) (v:=I 2);have ux:=ag X4;clear X4;have oh:=ag X;clear X RN)|(go_at_call 98;refine(ig (S:=S.ay g {x with res:={x.res with aJ:=2}}) ux g (az HG) o ca cn cc 18).mono ?_;rintro e wN ⟨rfl,X⟩;have HX5:=ag X;clear X))
   go_end0;exact⟨rfl,HX5.out.at_.eq aA⟩
theorem F5(S':Wd)(hm:jH S g o.ch=some S'):Calls prog 95 #[.agg #[.pointer (some ⟨F.al,0,none⟩),I g,I o.ai,I o.ch,I o.n,I o.v,.slice ca cn cc,B o.dG]] w (ee fun w'=>At af F m w m w' S'):=by
 have HX:=ag ((AB.iU R).alloc (iY F g o ca cn cc));have ie:=ag aG;unfold jH fL at hm;obtain⟨b,hb⟩:∃b,dK S o.ch=b:=⟨_,rfl⟩;rw[hb]at hm;have HB:=ag hb
 cases b with
 |false=>
  rw[aE sX]at hm;obtain⟨x,hx,rfl⟩:=Nb hm;have HG:=ag hx;clear R hm hb hx aG;go_enter func95,ntmps95;go_wp2_with (first|(go_at_call 147;refine(qS HX ie g o bO ca cn cc).mono ?_;rw[HB.out];rintro e wN ⟨rfl,X⟩;obtain⟨p0,p1,p2,p3,p4,p5,p6,p7⟩:=jo X.head;have tm:=ag X;clear X)|(go_at_call 98;refine(ig tm g HG o ca cn cc 6).mono ?_;rintro e wN ⟨rfl,X⟩;have oh:=ag X;clear X));exact bg6
 |true=>
  rw[aF rfl]at hm
  cases hx:S.gs[g]? with
  |none=>rw[hx]at hm;simp at hm
  |some x=>
   have HG:=ag hx;rw[hx]at hm
   cases hm;have nU:Hid ((S.ay g {x with res:=bZ 3}).gs[g]?=some {x with res:=bZ 3}):=az hx
   clear R hb hx aG;go_enter func95,ntmps95;go_wp2_with (first|(go_at_call 147;refine(qS HX ie g o bO ca cn cc).mono ?_;rw[HB.out];rintro e wN ⟨rfl,X⟩;obtain⟨p0,p1,p2,p3,p4,p5,p6,p7⟩:=jo X.head;have tm:=ag X;clear X)|(go_at_call 148;refine(mG tm g HG o ca cn cc 3).mono ?_;rintro e wN ⟨rfl,X⟩;have RN:=X.bj;obtain⟨p0,p1,p2,p3,p4,p5,p6,p7⟩:=jo X.head;have e2:=RN.dM;have oh:=ag X;clear X RN));go_region_with (go_at_call 146;refine(pn (S:=S.ay g {x with res:=bZ 3}) oh.out.aI g nU o ca cn cc).mono ?_;rintro e wN ⟨rfl,X⟩;have RN:=X.bj;obtain⟨p0,p1,p2,p3,p4,p5,p6,p7⟩:=jo X.head;have d2:=RN.dM;have g12:=RN.g nU 12 _ rfl;have PM:=RN.frozen RN.aB.gs (g*25+12);have nb:=X.ne RN.aB.gs;have Kn:=nb.symm;have ux:=ag X;clear X RN)
   all_goals
    have X5:=(ux.out.aI (w':=_) rfl rfl rfl rfl).g nU {x with res:=bZ 3,point:=S.av} (q:=12) (v:=I S.av);rw[aA]at X5;have HX5:=ag X5;clear X5;go_wp2_with (go_at_call 98;refine(ig (S:=S.ay g {x with res:=bZ 3,point:=S.av}) HX5.out.aI g (az HG) o ca cn cc 16).mono ?_;rintro e wN ⟨rfl,X⟩;have Hb:=ag X;clear X);exact bh2
end
theorem zb(X:AB af F m0 w0 m w S L){i rb:Nat}{r:Ring}(h:S.au[i]?=some r)(fA:m.aV (.eU i)=some rb)(ok:r.Ok):Calls prog 209 #[.pointer (some ⟨rb,0,none⟩)] w (eL (.tuple #[I r.get.2.1,.bool r.get.2.2]) fun w'=>AB af F m0 w0 m w' (S.dZ i r.get.1) L):=
 (N2 X.bj h fA ok).mono fun e w' ⟨h1,h2⟩=>⟨h1,X.av h2⟩
theorem qM{g:Nat}{o:cu}{S':Wd}(hm:jZ S g o=some S'):∃S2 v ok,(if cZ S o.ch=true then getRing S o.ch else some (S,0,false))=some (S2,v,ok)∧(if ok=true then fL S2 g fun x=>{x with res:={aJ:=1,case:= -1,v:=v,ok:=true},point:=S2.av,ae:=16}else if o.ai=3 then cD S2 g 10 else fL S2 g fun x=>{x with res:={aJ:=2,case:= -1},point:=S2.av,ae:=16})=some S':=by
 unfold jZ at hm;simp only[bW]at hm;by_cases h:cZ S o.ch=true
 ·rw[aF h]at hm ⊢;simp only[cI]at hm;obtain⟨⟨S2,v,ok⟩,h2,hm⟩:=hm;exact⟨S2,v,ok,h2,hm⟩
 ·rw[aE h]at hm ⊢;exact⟨S,0,false,rfl,hm⟩
theorem IE(R:bz af F w m S)(aG:Good S)(g:Nat)(hg:g<S.gs.length)(o:cu)(bO:eX o.ch)(ca:Option Addr)(cn cc:Nat)(S':Wd)(hm:jZ S g o=some S'):Calls prog 166 #[bR F,I g,.agg #[I o.ai,I o.ch,I o.n,I o.v,.slice ca cn cc,B o.dG]] w (ee fun w'=>At af F m w m w' S'):=by
 have X0:=(AB.iU R).alloc (.cells #[I o.ai,I o.ch,I o.n,I o.v,.slice ca cn cc,B o.dG] 49);have HX:=ag X0;have HM:=ag (gJ X0.bj o.ch);obtain⟨x,hx⟩:∃x,S.gs[g]?=some x:=⟨_,fv hg⟩;obtain⟨S2,v,ok,h2,hm⟩:=qM hm;have c2:=R.dM;have c3:=R.eu;obtain⟨aU,cm,aY,aZ⟩:=R.pB
 cases gv:cZ S o.ch with
 |false=>
  rw[aE (by simp[gv])]at h2
  cases h2;rw[aE sX]at hm;rw[gv]at HM;obtain⟨g2,xV⟩:=R.ps hx 2 _ rfl;obtain⟨g12,xC⟩:=R.ps hx 12 _ rfl;obtain⟨g15,tT⟩:=R.ps hx 15 _ rfl;obtain⟨g16,tU⟩:=R.ps hx 16 _ rfl;obtain⟨g17,tV⟩:=R.ps hx 17 _ rfl;obtain⟨g18,tW⟩:=R.ps hx 18 _ rfl;obtain⟨g19,tX⟩:=R.ps hx 19 _ rfl;have A0:=At.refl R;have HG:=ag hx;by_cases hk:o.ai=3
  ·rw[aF hk]at hm;obtain⟨x',th,rfl⟩:=Nb hm;rw[hx]at th
   cases th;have sk:(o.ai==3)=true:=bn3;have A1:=A0.g HG {x with ae:=10} (q:=2) (v:=I 10)
   have HA:=ag A1;clear A1;clear R aG hx gv hk A0 X0 hm;unfold bR;go_enter func166,ntmps166;go_wp2_with (go_at_call 138;refine HM.out.mono ?_;rintro e w1 ⟨rfl,rfl⟩);refine bodyPost_ret (results_none rfl _ _ _) rfl ?_;exact⟨rfl,HA.out.alloc _⟩
  ·rw[aE hk]at hm;simp only[fL,hx,km,oZ]at hm;subst hm;have sk:(o.ai==3)=false:=by simpa using hk
   have A1:=A0.res HG {aJ:=2,case:= -1};have A2:=A1.g (az HG) {x with res:={aJ:=2,case:= -1},point:=(S).av} (q:=12) (v:=I S.av);rw[aA]at A2;have A3:=A2.g (az HG) {x with res:={aJ:=2,case:= -1},point:=(S).av,ae:=16} (q:=2) (v:=I 16);rw[aA]at A3;have HA:=ag A3;clear A1 A2 A3;clear R aG hx gv hk A0 X0;unfold bR;go_enter func166,ntmps166;go_wp2_with (go_at_call 138;refine HM.out.mono ?_;rintro e w1 ⟨rfl,rfl⟩);go_end0;exact⟨rfl,HA.out.alloc _⟩
 |true=>
  rw[aF gv]at h2;unfold getRing at h2;simp only[bW,cI]at h2;obtain⟨⟨c,r⟩,tS,h2⟩:=h2;obtain⟨hc,hr⟩:=kx tS;clear tS;have eK:=aG.au c r hr;obtain⟨rr,rb,pL,fA,c5,cp⟩:=R.iJ hr;have O8:=R.lt pL;have wU:=R.lt fA;have gm:c<S.au.length:=cA hr;have hs:IntKind.i64.wrap (o.ch-1)=(c:Int):=bv4
  obtain⟨HR,uv,lP⟩:=ij hr fA eK;rw[gv]at HM;have HG:Hid ((S.dZ c r.get.1).gs[g]?=some x):=hx;obtain⟨rv,rok,Wt⟩:∃rv rok,r.get.2=(rv,rok):=⟨_,_,rfl⟩;have O9:r.get.2.1=rv:=by rw[Wt]
  have Pa:r.get.2.2=rok:=by rw[Wt]
  rw[O9,Pa]at h2;obtain⟨HG1,nU⟩:=dA O9 Pa;clear Wt O9 Pa
  cases rok with
  |true=>
   cases h2;rw[aF rfl]at hm;simp only[fL,HG.out,km,oZ]at hm;subst hm;clear R aG hx gv X0 hr pL fA eK hc;unfold bR;go_enter func166,ntmps166;go_wp2_with (go_at_call 138;refine HM.out.mono ?_;rintro e w1 ⟨rfl,rfl⟩);go_region_with (go_at_call 209;refine(zb HX.out.aI HR uv lP).mono ?_;rw[HG1.out,nU.out];rintro e wN ⟨rfl,X⟩;have RN:=X.bj;obtain⟨q0,q1,q2,q3,q4,q5⟩:=jD X.head;have e2:=RN.dM;have p2:=RN.g HG 2 _ rfl;have wW:=RN.frozen RN.aB.gs (g*25+2);have ZM:=RN.g HG 12 _ rfl;have Pb:=RN.frozen RN.aB.gs (g*25+12);have Ip:=RN.g HG 15 _ rfl;have Dm:=RN.frozen RN.aB.gs (g*25+15);have UZ:=RN.g HG 16 _ rfl;have Fz:=RN.frozen RN.aB.gs (g*25+16);have U0:=RN.g HG 17 _ rfl;have FA:=RN.frozen RN.aB.gs (g*25+17);have FB:=RN.g HG 18 _ rfl;have FC:=RN.frozen RN.aB.gs (g*25+18);have p19:=RN.g HG 19 _ rfl;have FD:=RN.frozen RN.aB.gs (g*25+19);have nb:=X.ne RN.aB.gs;have Kn:=nb.symm;have A0:=X.at_;have A1:=A0.res HG {aJ:=1,case:= -1,v:=v,ok:=true};have A2:=A1.g (az HG) {x with res:={aJ:=1,case:= -1,v:=v,ok:=true},point:=(S.dZ c r.get.1).av} (q:=12) (v:=I S.av);rw[aA]at A2;have A3:=A2.g (az HG) {x with res:={aJ:=1,case:= -1,v:=v,ok:=true},point:=(S.dZ c r.get.1).av,ae:=16} (q:=2) (v:=I 16);rw[aA]at A3;have HA:=ag A3;clear A1 A2 A3;clear A0 X RN)
   all_goals
    go_wp2;exact aX7
  |false=>
   cases h2;rw[aE sX]at hm;by_cases hk:o.ai=3
   ·rw[aF hk]at hm;obtain⟨x',th,rfl⟩:=Nb hm;rw[HG.out]at th
    cases th;have sk:(o.ai==3)=true:=bn3;clear R aG hx gv hk X0 hr pL fA eK hc hm;unfold bR;go_enter func166,ntmps166;go_wp2_with (go_at_call 138;refine HM.out.mono ?_;rintro e w1 ⟨rfl,rfl⟩);go_region_with (go_at_call 209;refine(zb HX.out.aI HR uv lP).mono ?_;rw[HG1.out,nU.out];rintro e wN ⟨rfl,X⟩;have RN:=X.bj;obtain⟨q0,q1,q2,q3,q4,q5⟩:=jD X.head;have e2:=RN.dM;have p2:=RN.g HG 2 _ rfl;have wW:=RN.frozen RN.aB.gs (g*25+2);have ZM:=RN.g HG 12 _ rfl;have Pb:=RN.frozen RN.aB.gs (g*25+12);have Ip:=RN.g HG 15 _ rfl;have Dm:=RN.frozen RN.aB.gs (g*25+15);have UZ:=RN.g HG 16 _ rfl;have Fz:=RN.frozen RN.aB.gs (g*25+16);have U0:=RN.g HG 17 _ rfl;have FA:=RN.frozen RN.aB.gs (g*25+17);have FB:=RN.g HG 18 _ rfl;have FC:=RN.frozen RN.aB.gs (g*25+18);have p19:=RN.g HG 19 _ rfl;have FD:=RN.frozen RN.aB.gs (g*25+19);have nb:=X.ne RN.aB.gs;have Kn:=nb.symm;have A0:=X.at_;have A1:=A0.g HG {x with ae:=10} (q:=2) (v:=I 10);have HA:=ag A1;clear A1;clear A0 X RN)
    all_goals
     go_wp2;exact aX7
   ·rw[aE hk]at hm;simp only[fL,HG.out,km,oZ]at hm;subst hm;have sk:(o.ai==3)=false:=bn3;clear R aG hx gv hk X0 hr pL fA eK hc;unfold bR;go_enter func166,ntmps166;go_wp2_with (go_at_call 138;refine HM.out.mono ?_;rintro e w1 ⟨rfl,rfl⟩);go_region_with (go_at_call 209;refine(zb HX.out.aI HR uv lP).mono ?_;rw[HG1.out,nU.out];rintro e wN ⟨rfl,X⟩;have RN:=X.bj;obtain⟨q0,q1,q2,q3,q4,q5⟩:=jD X.head;have e2:=RN.dM;have p2:=RN.g HG 2 _ rfl;have wW:=RN.frozen RN.aB.gs (g*25+2);have ZM:=RN.g HG 12 _ rfl;have Pb:=RN.frozen RN.aB.gs (g*25+12);have Ip:=RN.g HG 15 _ rfl;have Dm:=RN.frozen RN.aB.gs (g*25+15);have UZ:=RN.g HG 16 _ rfl;have Fz:=RN.frozen RN.aB.gs (g*25+16);have U0:=RN.g HG 17 _ rfl;have FA:=RN.frozen RN.aB.gs (g*25+17);have FB:=RN.g HG 18 _ rfl;have FC:=RN.frozen RN.aB.gs (g*25+18);have p19:=RN.g HG 19 _ rfl;have FD:=RN.frozen RN.aB.gs (g*25+19);have nb:=X.ne RN.aB.gs;have Kn:=nb.symm;have A0:=X.at_;have A1:=A0.res HG {aJ:=2,case:= -1};have A2:=A1.g (az HG) {x with res:={aJ:=2,case:= -1},point:=(S.dZ c r.get.1).av} (q:=12) (v:=I S.av);rw[aA]at A2;have A3:=A2.g (az HG) {x with res:={aJ:=2,case:= -1},point:=(S.dZ c r.get.1).av,ae:=16} (q:=2) (v:=I 16);rw[aA]at A3;have HA:=ag A3;clear A1 A2 A3;clear A0 X RN)
    all_goals
     go_wp2;exact ba9
end
end Go.Proofs.YtadifmnmfnihdaaGreat
