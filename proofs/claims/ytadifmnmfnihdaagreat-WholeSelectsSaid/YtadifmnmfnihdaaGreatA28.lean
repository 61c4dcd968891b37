import Derived.Test.YtadifmnmfnihdaaGreatA24
import Derived.Test.YtadifmnmfnihdaaGreatA25
import Derived.Test.YtadifmnmfnihdaaGreatA27
set_option linter.all false
set_option maxRecDepth 100000
set_option maxHeartbeats 40000000
namespace Go.Proofs.YtadifmnmfnihdaaGreat
open Go.RowKit Mach Go.Proofs.Tryz
section
variable{af:Nat}{F:Fx}{w w0 w':World}{m m0 m':Mem}{S S':Wd}{L:List (Nat×Obj)}
theorem Js(R:bz af F w m S)(aG:Good S)(g:Nat)(x:bI)(hx:S.gs[g]?=some x)(ch:Int)(bO:eX ch)(hp:x.ae=1∨x.ae=2∨x.ae=3)(S':Wd)(hm:lx S g ch=some S'):Calls prog 106 #[.pointer (some ⟨F.al,0,none⟩),I g,I ch] w (ee fun w'=>At af F m w m w' S'):=by
 unfold lx at hm;simp only[bW,hx,eN]at hm;by_cases h1:x.ae=1
 ·rw[aF h1]at hm;simp only[cI]at hm;obtain⟨b,hb,hm⟩:=hm
  cases b with
  |true=>
   simp only[dt]at hm;obtain⟨x2,kt,rfl⟩:=dr hm;rw[hx]at kt
   cases kt;exact Pn R aG g x hx ch bO h1 hb
  |false=>
   simp only[nW,dF,oZ]at hm;subst hm;exact Po R aG g x hx ch bO h1 hb
 rw[aE h1]at hm;by_cases h2:x.ae=2
 ·rw[aF h2]at hm
  cases hb:dK S ch with
  |true=>
   simp only[hb,dt]at hm;obtain⟨x2,kt,rfl⟩:=dr hm;rw[hx]at kt
   cases kt;exact Pp R aG g x hx ch bO h2 hb
  |false=>
   simp only[hb,nW,dF,oZ]at hm;subst hm;exact Pq R aG g x hx ch bO h2 hb
 rw[aE h2]at hm;simp only[cI]at hm;obtain⟨b,hb,hm⟩:=hm
 cases b with
 |true=>
  simp only[dt,oZ]at hm;subst hm;exact Pr R aG g x hx ch bO (by omega) hb
 |false=>
  simp only[nW,dF,oZ]at hm;subst hm;exact Ps R aG g x hx ch bO (by omega) hb
theorem QD(X:AB af F m0 w0 m w S L)(aG:Good S)(g:Nat){x:bI}(hx:S.gs[g]?=some x){ch:Int}(bO:eX ch)(hp:x.ae=1∨x.ae=2∨x.ae=3){S':Wd}(hm:lx S g ch=some S'):Calls prog 106 #[bR F,I g,I ch] w (ee fun w'=>∃m',AB af F m0 w0 m' w' S' L):=
 (Js X.bj aG g x hx ch bO hp S' hm).mono fun e w' ⟨h1,h2⟩=>⟨h1,m,X.av h2⟩
theorem Jt(X:AB af F m0 w0 m w S L)(aG:Good S)(g:Nat){x:bI}(hx:S.gs[g]?=some x){o:cu}(bO:eX o.ch)(ca:Option Addr)(cn cc:Nat)(hp:x.ae=5∨x.ae=6∨x.ae=7∨x.ae=8∨x.ae=9){S':Wd}(hm:iE S g o=some S'):Calls prog 107 #[bR F,I g,.agg #[I o.ai,I o.ch,I o.n,I o.v,.slice ca cn cc,B o.dG]] w (ee fun w'=>∃m',AB af F m0 w0 m' w' S' L):=
 (DV X.bj aG g x hx o bO ca cn cc hp S' hm).mono fun e w' ⟨h1,m',h2⟩=>⟨h1,m',X.av h2⟩
theorem QE(X:AB af F m0 w0 m w S L)(aG:Good S)(g:Nat){x:bI}(hx:S.gs[g]?=some x){ch:Int}(bO:eX ch)(hp:x.ae=10∨x.ae=11∨x.ae=14){S':Wd}(hm:j1 S g ch=some S'):Calls prog 108 #[bR F,I g,I ch] w (ee fun w'=>∃m',AB af F m0 w0 m' w' S' L):=
 (IT X.bj aG g x hx ch bO hp S' hm).mono fun e w' ⟨h1,m',h2⟩=>⟨h1,m',X.av h2⟩
theorem kG{g:Nat}{x:bI}(hx:S.gs[g]?=some x){o:cu}(ho:mf S g=some o)(hp:eO x.ae=false):gH S g=some (S,false):=by
 unfold eO at hp;simp only[decide_eq_false_iff_not,not_or]at hp;obtain⟨h4,uQ,uu,UW,SO,XJ⟩:=hp;unfold gH;simp only[bW,hx,ho,eN,aE h4,aE uQ,aE uu,aE UW,aE SO,aE XJ]
theorem TU(R:bz af F w m S)(aG:Good S)(g:Nat)(x:bI)(hx:S.gs[g]?=some x)(o:cu)(ho:dH S g=o)(bO:eX o.ch)(dj:o.cases.length≤1000)(hk:o.ai=3∨o.ai=5)(hp:eO x.ae=true)(S':Wd)(hm:gH S g=some (S',true)):Calls prog 62 #[bR F,I g] w (oV (To af F m w S')):=by
 have eM:=cA hx;have HR:=ag (At.refl R);rcases hk with hk|hk
 all_goals
  first
   |have sk:(o.ai !=3)=false:=by rw[hk];rfl
   |(have sk:(o.ai !=3)=true:=by rw[hk];rfl
     have Qs:(o.ai !=5)=false:=by rw[hk];rfl)
  obtain⟨HX,HO,HP,ie,HM⟩:=jW hx ho hp aG hm;clear R hx ho hp hk aG hm;unfold bR;go_enter func62,ntmps62;go_wp2_with (go_at_call 92;refine(dw HR.out g HX.out HO.out dj).mono ?_;rintro e w1 ⟨⟨cv,rfl,gE⟩,A1⟩;obtain⟨ca,cc,rfl⟩:=dm.shape gE;have R1:=A1.bj;have p2:=R1.g HX.out 2 _ rfl;skip;have c3:=R1.eu;have cm:=R1.lt R1.aB.gs;have aU:=R1.lt R1.aB.al;have iv:=ag ((AB.qn A1).alloc (eD o ca cc));clear A1 R1 gE);go_wp2_with (go_at_call 105;refine(jP (af:=af) (F:=F) (m0:=m) (w0:=w) (m:=m) (L:=[(w1.heap.size,eD o ca cc)]) (S:=S) ?_ ie.out HM.out).mono ?_;exact iv.out.aI;rintro e wN ⟨rfl,mN,X⟩;have uz:=ag X;clear X);go_ret;exact⟨rfl,ss uz.out⟩
theorem TV(R:bz af F w m S)(aG:Good S)(g:Nat)(x:bI)(hx:S.gs[g]?=some x)(o:cu)(ho:dH S g=o)(bO:eX o.ch)(dj:o.cases.length≤1000)(hk:o.ai=3∨o.ai=5)(hp:x.ae=1∨x.ae=2∨x.ae=3)(eK:mf S g=some o)(S':Wd)(hm:lx S g o.ch=some S'):Calls prog 62 #[bR F,I g] w (oV (To af F m w S')):=by
 have eM:=cA hx;have HR:=ag (At.refl R);rcases hk with hk|hk<;>rcases hp with hp|hp|hp
 all_goals
  first
   |have sk:(o.ai !=3)=false:=by rw[hk];rfl
   |(have sk:(o.ai !=3)=true:=by rw[hk];rfl
     have Qs:(o.ai !=5)=false:=by rw[hk];rfl)
  have lP:=ag eK;clear eK;obtain⟨HX,HO,HP,ie,HM⟩:=jW hx ho hp aG hm;clear R hx ho hp hk aG hm;unfold bR;go_enter func62,ntmps62;go_wp2_with (go_at_call 92;refine(dw HR.out g HX.out HO.out dj).mono ?_;rintro e w1 ⟨⟨cv,rfl,gE⟩,A1⟩;obtain⟨ca,cc,rfl⟩:=dm.shape gE;have R1:=A1.bj;have p2:=R1.g HX.out 2 _ rfl;skip;have c3:=R1.eu;have cm:=R1.lt R1.aB.gs;have aU:=R1.lt R1.aB.al;have iv:=ag ((AB.qn A1).alloc (eD o ca cc));clear A1 R1 gE);go_wp2_with (first|(go_at_call 105;refine(jP (af:=af) (F:=F) (m0:=m) (w0:=w) (m:=m) (L:=[(w1.heap.size,eD o ca cc)]) (S:=S) ?_ ie.out (kG HX.out lP.out (by rw[HP.out];decide))).mono ?_;exact iv.out.aI;rintro e wN ⟨rfl,mN,X⟩;have RN:=X.bj;obtain⟨q0,q1,q2,q3,q4,q5⟩:=jD X.head;have p2:=RN.g HX.out 2 _ rfl;rw[HP.out]at p2;have c3:=RN.eu;have wG:=ag X;clear X RN)|(go_at_call 106;refine(QD (af:=af) (F:=F) (m0:=m) (w0:=w) (m:=mN) (L:=[(w1.heap.size,eD o ca cc)]) (S:=S) ?_ ie.out g HX.out bO (by rw[HP.out];decide) HM.out).mono ?_;exact wG.out.aI;rintro e Yd ⟨rfl,mN2,X⟩;have uz:=ag X;clear X));go_ret;exact⟨rfl,ss uz.out⟩
theorem TW(R:bz af F w m S)(aG:Good S)(g:Nat)(x:bI)(hx:S.gs[g]?=some x)(o:cu)(ho:dH S g=o)(bO:eX o.ch)(dj:o.cases.length≤1000)(hk:o.ai=3∨o.ai=5)(hp:x.ae=5∨x.ae=6∨x.ae=7∨x.ae=8∨x.ae=9)(eK:mf S g=some o)(S':Wd)(hm:iE S g o=some S'):Calls prog 62 #[bR F,I g] w (oV (To af F m w S')):=by
 have eM:=cA hx;have HR:=ag (At.refl R);rcases hk with hk|hk<;>rcases hp with hp|hp|hp|hp|hp
 all_goals
  first
   |have sk:(o.ai !=3)=false:=by rw[hk];rfl
   |(have sk:(o.ai !=3)=true:=by rw[hk];rfl
     have Qs:(o.ai !=5)=false:=by rw[hk];rfl)
  have lP:=ag eK;clear eK;obtain⟨HX,HO,HP,ie,HM⟩:=jW hx ho hp aG hm;clear R hx ho hp hk aG hm;unfold bR;go_enter func62,ntmps62;go_wp2_with (go_at_call 92;refine(dw HR.out g HX.out HO.out dj).mono ?_;rintro e w1 ⟨⟨cv,rfl,gE⟩,A1⟩;obtain⟨ca,cc,rfl⟩:=dm.shape gE;have R1:=A1.bj;have p2:=R1.g HX.out 2 _ rfl;skip;have c3:=R1.eu;have cm:=R1.lt R1.aB.gs;have aU:=R1.lt R1.aB.al;have iv:=ag ((AB.qn A1).alloc (eD o ca cc));clear A1 R1 gE);go_wp2_with (first|(go_at_call 105;refine(jP (af:=af) (F:=F) (m0:=m) (w0:=w) (m:=m) (L:=[(w1.heap.size,eD o ca cc)]) (S:=S) ?_ ie.out (kG HX.out lP.out (by rw[HP.out];decide))).mono ?_;exact iv.out.aI;rintro e wN ⟨rfl,mN,X⟩;have RN:=X.bj;obtain⟨q0,q1,q2,q3,q4,q5⟩:=jD X.head;have p2:=RN.g HX.out 2 _ rfl;rw[HP.out]at p2;have c3:=RN.eu;have wG:=ag X;clear X RN)|(go_at_call 107;refine(Jt (af:=af) (F:=F) (m0:=m) (w0:=w) (m:=mN) (L:=[(w1.heap.size,eD o ca cc)]) (S:=S) ?_ ie.out g HX.out bO ca o.cases.length cc (by rw[HP.out];decide) HM.out).mono ?_;exact wG.out.aI;rintro e Yd ⟨rfl,mN2,X⟩;have uz:=ag X;clear X));go_ret;exact⟨rfl,ss uz.out⟩
theorem QF(R:bz af F w m S)(aG:Good S)(g:Nat)(x:bI)(hx:S.gs[g]?=some x)(o:cu)(ho:dH S g=o)(bO:eX o.ch)(dj:o.cases.length≤1000)(hk:o.ai=3∨o.ai=5)(hp:x.ae=10∨x.ae=11∨x.ae=14)(eK:mf S g=some o)(S':Wd)(hm:j1 S g o.ch=some S'):Calls prog 62 #[bR F,I g] w (oV (To af F m w S')):=by
 have eM:=cA hx;have HR:=ag (At.refl R);rcases hk with hk|hk<;>rcases hp with hp|hp|hp
 all_goals
  first
   |have sk:(o.ai !=3)=false:=by rw[hk];rfl
   |(have sk:(o.ai !=3)=true:=by rw[hk];rfl
     have Qs:(o.ai !=5)=false:=by rw[hk];rfl)
  have lP:=ag eK;clear eK;obtain⟨HX,HO,HP,ie,HM⟩:=jW hx ho hp aG hm;clear R hx ho hp hk aG hm;unfold bR;go_enter func62,ntmps62;go_wp2_with (go_at_call 92;refine(dw HR.out g HX.out HO.out dj).mono ?_;rintro e w1 ⟨⟨cv,rfl,gE⟩,A1⟩;obtain⟨ca,cc,rfl⟩:=dm.shape gE;have R1:=A1.bj;have p2:=R1.g HX.out 2 _ rfl;skip;have c3:=R1.eu;have cm:=R1.lt R1.aB.gs;have aU:=R1.lt R1.aB.al;have iv:=ag ((AB.qn A1).alloc (eD o ca cc));clear A1 R1 gE);go_wp2_with (first|(go_at_call 105;refine(jP (af:=af) (F:=F) (m0:=m) (w0:=w) (m:=m) (L:=[(w1.heap.size,eD o ca cc)]) (S:=S) ?_ ie.out (kG HX.out lP.out (by rw[HP.out];decide))).mono ?_;exact iv.out.aI;rintro e wN ⟨rfl,mN,X⟩;have RN:=X.bj;obtain⟨q0,q1,q2,q3,q4,q5⟩:=jD X.head;have p2:=RN.g HX.out 2 _ rfl;rw[HP.out]at p2;have c3:=RN.eu;have wG:=ag X;clear X RN)|(go_at_call 108;refine(QE (af:=af) (F:=F) (m0:=m) (w0:=w) (m:=mN) (L:=[(w1.heap.size,eD o ca cc)]) (S:=S) ?_ ie.out g HX.out bO (by rw[HP.out];decide) HM.out).mono ?_;exact wG.out.aI;rintro e Yd ⟨rfl,mN2,X⟩;have uz:=ag X;clear X));go_ret;exact⟨rfl,ss uz.out⟩
theorem Gw(R:bz af F w m S)(g:Nat)(x:bI)(hx:S.gs[g]?=some x)(o:cu)(ho:dH S g=o)(dj:o.cases.length≤1000)(hk:o.ai≠3∧o.ai≠5):Calls prog 62 #[bR F,I g] w (eL (.bool false) (To af F m w S)):=by
 have HR:=ag (At.refl R);have jO:(o.ai !=3)=true:=by simpa using hk.1
 have Eu:(o.ai !=5)=true:=by simpa using hk.2
 obtain⟨HX,HO⟩:=dA hx ho;clear R hx ho hk;unfold bR;go_enter func62,ntmps62;go_wp2_with (go_at_call 92;refine(dw HR.out g HX.out HO.out dj).mono ?_;rintro e w1 ⟨⟨cv,rfl,gE⟩,A1⟩;obtain⟨ca,cc,rfl⟩:=dm.shape gE;have iv:=ag (A1.alloc (eD o ca cc));clear A1 gE);go_ret;exact⟨rfl,m,iv.out.aI⟩
theorem Ju(R:bz af F w m S)(aG:Good S)(g:Nat)(S':Wd)(hm:jr S g=some (S',true)):Calls prog 62 #[.pointer (some ⟨F.al,0,none⟩),I g] w (oV (To af F m w S')):=by
 unfold jr at hm;simp only[bW,cI]at hm;obtain⟨o,eK,x,hx,hm⟩:=hm;obtain⟨ho,bO,dj⟩:=nB eK;by_cases hk:o.ai≠3∧o.ai≠5
 ·rw[aF hk]at hm
  cases hm
 rw[aE hk]at hm;have hk:o.ai=3∨o.ai=5:=by omega
 by_cases hc:eO x.ae=true
 ·rw[aF hc]at hm;exact TU R aG g x hx o ho bO dj hk hc _ hm
 rw[aE hc]at hm;by_cases hp:x.ae=1∨x.ae=2∨x.ae=3
 ·rw[aF hp]at hm;have hn:=(dS hm).1;exact TV R aG g x hx o ho bO dj hk hp eK _ hn
 rw[aE hp]at hm;by_cases hp:x.ae=5∨x.ae=6∨x.ae=7∨x.ae=8∨x.ae=9
 ·rw[aF hp]at hm;have hn:=(dS hm).1;exact TW R aG g x hx o ho bO dj hk hp eK _ hn
 rw[aE hp]at hm;by_cases hp:x.ae=10∨x.ae=11∨x.ae=14
 ·rw[aF hp]at hm;have hn:=(dS hm).1;exact QF R aG g x hx o ho bO dj hk hp eK _ hn
 rw[aE hp]at hm
 cases hm
theorem TX(X:AB af F m0 w0 m w S L)(aG:Good S)(g:Nat){ch:Int}(bO:eX ch){S':Wd}(hm:uD S g ch=some S'):Calls prog 109 #[bR F,I g,I ch] w (ee fun w'=>∃m',AB af F m0 w0 m' w' S' L):=
 (Mh X.bj aG g ch bO S' hm).mono fun e w' ⟨h1,h2⟩=>⟨h1,m,X.av h2⟩
theorem QG(X:AB af F m0 w0 m w S L)(g:Nat){ch:Int}(bO:eX ch){S':Wd}(hm:qt S g ch=some S'):Calls prog 110 #[bR F,I g,I ch] w (ee fun w'=>∃m',AB af F m0 w0 m' w' S' L):=
 (Jr X.bj g ch bO S' hm).mono fun e w' ⟨h1,m',h2⟩=>⟨h1,m',X.av h2⟩
theorem Gx(X:AB af F m0 w0 m w S L)(g:Nat){S':Wd}(hm:ly S g=some S'):Calls prog 111 #[bR F,I g] w (ee fun w'=>∃m',AB af F m0 w0 m' w' S' L):=
 (Bn X.bj g S' hm).mono fun e w' ⟨h1,m',h2⟩=>⟨h1,m',X.av h2⟩
theorem TZ(R:bz af F w m S)(aG:Good S)(g:Nat)(x:bI)(hx:S.gs[g]?=some x)(o:cu)(ho:dH S g=o)(bO:eX o.ch)(dj:o.cases.length≤1000)(hk:o.ai=6)(hp:eO x.ae=true)(S':Wd)(hm:gH S g=some (S',true)):Calls prog 63 #[bR F,I g] w (oV (To af F m w S')):=by
 have eM:=cA hx;have HR:=ag (At.refl R);have Qt:(o.ai !=6)=false:=by rw[hk];rfl
 obtain⟨HX,HO,HP,ie,HM⟩:=jW hx ho hp aG hm;clear R hx ho hp hk aG hm;unfold bR;go_enter func63,ntmps63;go_wp2_with (go_at_call 92;refine(dw HR.out g HX.out HO.out dj).mono ?_;rintro e w1 ⟨⟨cv,rfl,gE⟩,A1⟩;obtain⟨ca,cc,rfl⟩:=dm.shape gE;have R1:=A1.bj;have p2:=R1.g HX.out 2 _ rfl;have c3:=R1.eu;have cm:=R1.lt R1.aB.gs;have aU:=R1.lt R1.aB.al;have iv:=ag ((AB.qn A1).alloc (eD o ca cc));clear A1 R1 gE);go_wp2_with (go_at_call 105;refine(jP (af:=af) (F:=F) (m0:=m) (w0:=w) (m:=m) (L:=[(w1.heap.size,eD o ca cc)]) (S:=S) ?_ ie.out HM.out).mono ?_;exact iv.out.aI;rintro e wN ⟨rfl,mN,X⟩;have uz:=ag X;clear X);go_ret;exact⟨rfl,ss uz.out⟩
theorem QH(R:bz af F w m S)(aG:Good S)(g:Nat)(x:bI)(hx:S.gs[g]?=some x)(o:cu)(ho:dH S g=o)(bO:eX o.ch)(dj:o.cases.length≤1000)(hk:o.ai=6)(hp:x.ae=21)(eK:mf S g=some o)(S':Wd)(hm:uD S g o.ch=some S'):Calls prog 63 #[bR F,I g] w (oV (To af F m w S')):=by
 have eM:=cA hx;have HR:=ag (At.refl R);have Qt:(o.ai !=6)=false:=by rw[hk];rfl
 have lP:=ag eK;clear eK;obtain⟨HX,HO,HP,ie,HM⟩:=jW hx ho hp aG hm;clear R hx ho hp hk aG hm;unfold bR;go_enter func63,ntmps63;go_wp2_with (go_at_call 92;refine(dw HR.out g HX.out HO.out dj).mono ?_;rintro e w1 ⟨⟨cv,rfl,gE⟩,A1⟩;obtain⟨ca,cc,rfl⟩:=dm.shape gE;have R1:=A1.bj;have p2:=R1.g HX.out 2 _ rfl;have c3:=R1.eu;have cm:=R1.lt R1.aB.gs;have aU:=R1.lt R1.aB.al;have iv:=ag ((AB.qn A1).alloc (eD o ca cc));clear A1 R1 gE);go_wp2_with (first|(go_at_call 105;refine(jP (af:=af) (F:=F) (m0:=m) (w0:=w) (m:=m) (L:=[(w1.heap.size,eD o ca cc)]) (S:=S) ?_ ie.out (kG HX.out lP.out (by rw[HP.out];decide))).mono ?_;exact iv.out.aI;rintro e wN ⟨rfl,mN,X⟩;have RN:=X.bj;obtain⟨q0,q1,q2,q3,q4,q5⟩:=jD X.head;have p2:=RN.g HX.out 2 _ rfl;rw[HP.out]at p2;have c3:=RN.eu;have wG:=ag X;clear X RN)|(go_at_call 109;refine(TX (af:=af) (F:=F) (m0:=m) (w0:=w) (m:=mN) (L:=[(w1.heap.size,eD o ca cc)]) (S:=S) ?_ ie.out g bO HM.out).mono ?_;exact wG.out.aI;rintro e Yd ⟨rfl,mN2,X⟩;have uz:=ag X;clear X));go_ret;exact⟨rfl,ss uz.out⟩
theorem QI(R:bz af F w m S)(aG:Good S)(g:Nat)(x:bI)(hx:S.gs[g]?=some x)(o:cu)(ho:dH S g=o)(bO:eX o.ch)(dj:o.cases.length≤1000)(hk:o.ai=6)(hp:x.ae=22)(eK:mf S g=some o)(S':Wd)(hm:qt S g o.ch=some S'):Calls prog 63 #[bR F,I g] w (oV (To af F m w S')):=by
 have eM:=cA hx;have HR:=ag (At.refl R);have Qt:(o.ai !=6)=false:=by rw[hk];rfl
 have lP:=ag eK;clear eK;obtain⟨HX,HO,HP,ie,HM⟩:=jW hx ho hp aG hm;clear R hx ho hp hk aG hm;unfold bR;go_enter func63,ntmps63;go_wp2_with (go_at_call 92;refine(dw HR.out g HX.out HO.out dj).mono ?_;rintro e w1 ⟨⟨cv,rfl,gE⟩,A1⟩;obtain⟨ca,cc,rfl⟩:=dm.shape gE;have R1:=A1.bj;have p2:=R1.g HX.out 2 _ rfl;have c3:=R1.eu;have cm:=R1.lt R1.aB.gs;have aU:=R1.lt R1.aB.al;have iv:=ag ((AB.qn A1).alloc (eD o ca cc));clear A1 R1 gE);go_wp2_with (first|(go_at_call 105;refine(jP (af:=af) (F:=F) (m0:=m) (w0:=w) (m:=m) (L:=[(w1.heap.size,eD o ca cc)]) (S:=S) ?_ ie.out (kG HX.out lP.out (by rw[HP.out];decide))).mono ?_;exact iv.out.aI;rintro e wN ⟨rfl,mN,X⟩;have RN:=X.bj;obtain⟨q0,q1,q2,q3,q4,q5⟩:=jD X.head;have p2:=RN.g HX.out 2 _ rfl;rw[HP.out]at p2;have c3:=RN.eu;have wG:=ag X;clear X RN)|(go_at_call 110;refine(QG (af:=af) (F:=F) (m0:=m) (w0:=w) (m:=mN) (L:=[(w1.heap.size,eD o ca cc)]) (S:=S) ?_ g bO HM.out).mono ?_;exact wG.out.aI;rintro e Yd ⟨rfl,mN2,X⟩;have uz:=ag X;clear X));go_ret;exact⟨rfl,ss uz.out⟩
theorem QJ(R:bz af F w m S)(aG:Good S)(g:Nat)(x:bI)(hx:S.gs[g]?=some x)(o:cu)(ho:dH S g=o)(bO:eX o.ch)(dj:o.cases.length≤1000)(hk:o.ai=6)(hp:x.ae=23)(eK:mf S g=some o)(S':Wd)(hm:ly S g=some S'):Calls prog 63 #[bR F,I g] w (oV (To af F m w S')):=by
 have eM:=cA hx;have HR:=ag (At.refl R);have Qt:(o.ai !=6)=false:=by rw[hk];rfl
 have lP:=ag eK;clear eK;obtain⟨HX,HO,HP,ie,HM⟩:=jW hx ho hp aG hm;clear R hx ho hp hk aG hm;unfold bR;go_enter func63,ntmps63;go_wp2_with (go_at_call 92;refine(dw HR.out g HX.out HO.out dj).mono ?_;rintro e w1 ⟨⟨cv,rfl,gE⟩,A1⟩;obtain⟨ca,cc,rfl⟩:=dm.shape gE;have R1:=A1.bj;have p2:=R1.g HX.out 2 _ rfl;have c3:=R1.eu;have cm:=R1.lt R1.aB.gs;have aU:=R1.lt R1.aB.al;have iv:=ag ((AB.qn A1).alloc (eD o ca cc));clear A1 R1 gE);go_wp2_with (first|(go_at_call 105;refine(jP (af:=af) (F:=F) (m0:=m) (w0:=w) (m:=m) (L:=[(w1.heap.size,eD o ca cc)]) (S:=S) ?_ ie.out (kG HX.out lP.out (by rw[HP.out];decide))).mono ?_;exact iv.out.aI;rintro e wN ⟨rfl,mN,X⟩;have RN:=X.bj;obtain⟨q0,q1,q2,q3,q4,q5⟩:=jD X.head;have p2:=RN.g HX.out 2 _ rfl;rw[HP.out]at p2;have c3:=RN.eu;have wG:=ag X;clear X RN)|(go_at_call 111;refine(Gx (af:=af) (F:=F) (m0:=m) (w0:=w) (m:=mN) (L:=[(w1.heap.size,eD o ca cc)]) (S:=S) ?_ g HM.out).mono ?_;exact wG.out.aI;rintro e Yd ⟨rfl,mN2,X⟩;have uz:=ag X;clear X));go_ret;exact⟨rfl,ss uz.out⟩
theorem QK(R:bz af F w m S)(g:Nat)(x:bI)(hx:S.gs[g]?=some x)(o:cu)(ho:dH S g=o)(dj:o.cases.length≤1000)(hk:o.ai≠6):Calls prog 63 #[bR F,I g] w (eL (.bool false) (To af F m w S)):=by
 have HR:=ag (At.refl R);have jO:(o.ai !=6)=true:=by simpa using hk
 obtain⟨HX,HO⟩:=dA hx ho;clear R hx ho hk;unfold bR;go_enter func63,ntmps63;go_wp2_with (go_at_call 92;refine(dw HR.out g HX.out HO.out dj).mono ?_;rintro e w1 ⟨⟨cv,rfl,gE⟩,A1⟩;obtain⟨ca,cc,rfl⟩:=dm.shape gE;have iv:=ag (A1.alloc (eD o ca cc));clear A1 gE);go_ret;exact⟨rfl,m,iv.out.aI⟩
theorem Jv(R:bz af F w m S)(aG:Good S)(g:Nat)(S':Wd)(hm:js S g=some (S',true)):Calls prog 63 #[.pointer (some ⟨F.al,0,none⟩),I g] w (oV (To af F m w S')):=by
 unfold js at hm;simp only[bW,cI]at hm;obtain⟨o,eK,x,hx,hm⟩:=hm;obtain⟨ho,bO,dj⟩:=nB eK;by_cases hk:o.ai≠6
 ·rw[aF hk]at hm
  cases hm
 rw[aE hk]at hm;have hk:o.ai=6:=by omega
 by_cases hc:eO x.ae=true
 ·rw[aF hc]at hm;exact TZ R aG g x hx o ho bO dj hk hc _ hm
 rw[aE hc]at hm;by_cases hp:x.ae=21
 ·rw[aF hp]at hm;exact QH R aG g x hx o ho bO dj hk hp eK _ (dS hm).1
 rw[aE hp]at hm;by_cases hp:x.ae=22
 ·rw[aF hp]at hm;exact QI R aG g x hx o ho bO dj hk hp eK _ (dS hm).1
 rw[aE hp]at hm;by_cases hp:x.ae=23
 ·rw[aF hp]at hm;exact QJ R aG g x hx o ho bO dj hk hp eK _ (dS hm).1
 rw[aE hp]at hm
 cases hm
end
end Go.Proofs.YtadifmnmfnihdaaGreat
