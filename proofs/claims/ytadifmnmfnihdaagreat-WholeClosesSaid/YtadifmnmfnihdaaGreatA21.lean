import Derived.Test.YtadifmnmfnihdaaGreatA08
import Derived.Test.YtadifmnmfnihdaaGreatA17
set_option linter.all false
set_option maxRecDepth 100000
set_option maxHeartbeats 40000000
namespace Go.Proofs.YtadifmnmfnihdaaGreat
open Go.RowKit Mach Go.Proofs.Tryz
section
variable{af:Nat}{F:Fx}{w w0 w':World}{m m0 m':Mem}{S S':Wd}{L:List (Nat×Obj)}
section
variable(R:bz af F w m S)(aG:Good S)(g:Nat)(x:bI)(hx:S.gs[g]?=some x)(o:cu)(ho:dH S g=o)(bO:eX o.ch)(dj:o.cases.length≤1000)(hk:o.ai=2∨o.ai=4)
include R aG g x hx o ho bO dj hk
theorem pr(S':Wd)(hm:(x.ae=1∧ll S g o.ch=some S')∨(x.ae=2∧jG S g o.ch=some S')∨(x.ae=5∧jH S g o.ch=some S')∨(x.ae=7∧rD S g 6 8=some S')∨(x.ae=8∧lp S g o.v=some S')∨(x.ae=9∧jY S g o=some S')∨(x.ae=10∧rE S g {cK:=true,g:=g,ch:=o.ch,case:= -1,cF:=true,v:=o.v}=some S')∨(x.ae=14∧lu S g=some S')):Calls prog 61 #[bR F,I g] w (oV (To af F m w S')):=by
 have eM:=cA hx;have HR:=ag (At.refl R);rcases hk with hk|hk<;>rcases hm with⟨hp,hm⟩|⟨hp,hm⟩|⟨hp,hm⟩|⟨hp,hm⟩|⟨hp,hm⟩|⟨hp,hm⟩|⟨hp,hm⟩|⟨hp,hm⟩
 all_goals
  first
   |have jO:(o.ai !=2)=false:=bj1
   |(have jO:(o.ai !=2)=true:=by rw[hk];rfl
     have Eu:(o.ai !=4)=false:=bj1)
  obtain⟨HX,HO,HP,ie,HM⟩:=jW hx ho hp aG hm;clear R hx ho hp hk aG hm;unfold bR;go_enter func61,ntmps61;go_wp2_with (go_at_call 92;refine(dw HR g HX HO dj).mono ?_;rintro e w1 ⟨⟨cv,rfl,gE⟩,A1⟩;obtain⟨ca,cc,rfl⟩:=dm.shape gE;have R1:=A1.bj;have p2:=R1.g HX 2 _ rfl;rw[HP.out]at p2;have c3:=R1.eu;have cm:=R1.lt R1.aB.gs;have aU:=R1.lt R1.aB.al;have iv:=ag ((AB.qn A1).oP (eD o ca cc) (iY F g o ca o.cases.length cc));clear A1 R1 gE);go_wp2_with (first|(go_at_call 93;refine(PN iv.out.aI g o bO ca o.cases.length cc HM).mono ?_;rintro e wN ⟨rfl,X⟩;have uz:=ag X;clear X)|(go_at_call 94;refine(Mr iv.out.aI g o ie bO ca o.cases.length cc HM).mono ?_;rintro e wN ⟨rfl,X⟩;have uz:=ag X;clear X)|(go_at_call 95;refine(Ms iv.out.aI g o ie bO ca o.cases.length cc HM).mono ?_;rintro e wN ⟨rfl,X⟩;have uz:=ag X;clear X)|(go_at_call 99;refine(PS iv.out.aI HM).mono ?_;rintro e wN ⟨rfl,X⟩;have uz:=ag X;clear X)|(go_at_call 100;refine(PO iv.out.aI g o ca o.cases.length cc HM).mono ?_;rintro e wN ⟨rfl,mN,X⟩;have uz:=ag X;clear X)|(go_at_call 101;refine(PQ iv.out.aI g o ie bO ca o.cases.length cc HM).mono ?_;rintro e wN ⟨rfl,X⟩;have uz:=ag X;clear X)|(go_at_call 102;refine(Ti iv.out.aI ie HM).mono ?_;rintro e wN ⟨rfl,mN,X⟩;have uz:=ag X;clear X)|(go_at_call 104;refine(PR iv.out.aI g o ca o.cases.length cc HM).mono ?_;rintro e wN ⟨rfl,X⟩;have uz:=ag X;clear X));go_ret;exact⟨rfl,ss uz⟩
theorem Qh(hp:x.ae=6)(S':Wd)(hm:Mach.take S g (2*o.ch-2) 7 8=some (S',true)):Calls prog 61 #[bR F,I g] w (oV (To af F m w S')):=by
 have eM:=cA hx;have HR:=ag (At.refl R);rcases hk with hk|hk
 all_goals
  first
   |have jO:(o.ai !=2)=false:=bj1
   |(have jO:(o.ai !=2)=true:=by rw[hk];rfl
     have Eu:(o.ai !=4)=false:=bj1)
  obtain⟨HX,HO,HP,ie,HM⟩:=jW hx ho hp aG hm;clear R hx ho hp hk aG hm;unfold bR;go_enter func61,ntmps61;go_wp2_with (go_at_call 92;refine(dw HR g HX HO dj).mono ?_;rintro e w1 ⟨⟨cv,rfl,gE⟩,A1⟩;obtain⟨ca,cc,rfl⟩:=dm.shape gE;have R1:=A1.bj;have p2:=R1.g HX 2 _ rfl;rw[HP.out]at p2;have c3:=R1.eu;have cm:=R1.lt R1.aB.gs;have aU:=R1.lt R1.aB.al;have iv:=ag ((AB.qn A1).oP (eD o ca cc) (iY F g o ca o.cases.length cc));clear A1 R1 gE);go_wp2_with (first|(go_at_call 97;refine(uf iv.out.aI g o bO ca o.cases.length cc).mono ?_;rintro e wN ⟨rfl,X⟩;have wG:=ag X;clear X)|(go_at_call 96;refine(ot wG HM).mono ?_;rintro e wN ⟨rfl,X⟩;obtain⟨p0,p1,p2,p3,p4,p5,p6,p7⟩:=jo X.head;have My:=ag X;clear X));go_ret;exact⟨rfl,ss My⟩
theorem Qi(hp:x.ae=6)(S2 S':Wd)(hm:Mach.take S g (2*o.ch-2) 7 8=some (S2,false))(hm2:cD S2 g 9=some S'):Calls prog 61 #[bR F,I g] w (oV (To af F m w S')):=by
 obtain⟨x2,kt,rfl⟩:=Nb hm2;have nU:=ag kt;clear hm2 kt;have eM:=cA hx;have HR:=ag (At.refl R);rcases hk with hk|hk
 all_goals
  first
   |have jO:(o.ai !=2)=false:=bj1
   |(have jO:(o.ai !=2)=true:=by rw[hk];rfl
     have Eu:(o.ai !=4)=false:=bj1)
  obtain⟨HX,HO,HP,ie,HM⟩:=jW hx ho hp aG hm;clear R hx ho hp hk aG hm;unfold bR;go_enter func61,ntmps61;go_wp2_with (go_at_call 92;refine(dw HR g HX HO dj).mono ?_;rintro e w1 ⟨⟨cv,rfl,gE⟩,A1⟩;obtain⟨ca,cc,rfl⟩:=dm.shape gE;have R1:=A1.bj;have p2:=R1.g HX 2 _ rfl;rw[HP.out]at p2;have c3:=R1.eu;have cm:=R1.lt R1.aB.gs;have aU:=R1.lt R1.aB.al;have iv:=ag ((AB.qn A1).oP (eD o ca cc) (iY F g o ca o.cases.length cc));clear A1 R1 gE);go_wp2_with (first|(go_at_call 97;refine(uf iv.out.aI g o bO ca o.cases.length cc).mono ?_;rintro e wN ⟨rfl,X⟩;have wG:=ag X;clear X)|(go_at_call 96;refine(ot wG HM).mono ?_;rintro e wN ⟨rfl,X⟩;obtain⟨p0,p1,p2,p3,p4,p5,p6,p7⟩:=jo X.head;have My:=ag X;clear X)|(go_at_call 98;refine(ig (S:=S2) My g nU o ca o.cases.length cc 9).mono ?_;rintro e wN ⟨rfl,X⟩;have uz:=ag X;clear X));go_ret;exact⟨rfl,ss uz⟩
theorem Qj(hp:x.ae=11)(S2:Wd)(hm:lh S (2*o.ch-1) x.bY=some S2):Calls prog 61 #[bR F,I g] w (oV fun w'=>To af F m w (S2.ay g {x with bJ:=S2.av,ae:=12}) w'):=by
 obtain⟨mi,Pz⟩:∃mi,x.bY=mi:=⟨_,rfl⟩;have HMI:=ag Pz;rw[Pz]at hm;clear Pz;have WY:S2.gs=S.gs:=by obtain⟨q,b,_,rfl⟩:=qk hm;rfl
 have nU:Hid (S2.gs[g]?=some x):=by rw[WY];exact hx
 have Me:g<S2.gs.length:=by rw[WY];exact(cA hx)
 clear WY;have eM:=cA hx;have HR:=ag (At.refl R);rcases hk with hk|hk
 all_goals
  first
   |have jO:(o.ai !=2)=false:=bj1
   |(have jO:(o.ai !=2)=true:=by rw[hk];rfl
     have Eu:(o.ai !=4)=false:=bj1)
  obtain⟨HX,HO,HP,ie,HM⟩:=jW hx ho hp aG hm;clear R hx ho hp hk aG hm;unfold bR;go_enter func61,ntmps61;go_wp2_with (go_at_call 92;refine(dw HR g HX HO dj).mono ?_;rintro e w1 ⟨⟨cv,rfl,gE⟩,A1⟩;obtain⟨ca,cc,rfl⟩:=dm.shape gE;have R1:=A1.bj;have p2:=R1.g HX 2 _ rfl;rw[HP.out]at p2;have c3:=R1.eu;have cm:=R1.lt R1.aB.gs;have aU:=R1.lt R1.aB.al;have c8:=R1.dR;have g8:=R1.g HX 8 _ rfl;rw[HMI.out]at g8;obtain⟨w2,nt,X2⟩:∃w2,w2=_∧AB af F m w m w2 S [(w1.heap.size+1,iY F g o ca o.cases.length cc),(w1.heap.size,eD o ca cc)]:=⟨_,rfl,(AB.qn A1).oP (eD o ca cc) (iY F g o ca o.cases.length cc)⟩;obtain⟨p0,p1,Nx,p3,p4,p5,p6,p7⟩:=jo X2.head;obtain⟨o0,o1,o2,o3,o4,o5⟩:=jD (X2.loc (w1.heap.size,eD o ca cc) (nO _ (rn ..))).1;have d3:=X2.bj.eu;have d8:=X2.bj.dR;have k8:=X2.bj.g HX 8 _ rfl;rw[HMI.out]at k8;have tm:=ag X2;clear X2 A1 R1 gE);rw[←nt];clear nt;have hs:IntKind.i64.wrap (2*o.ch-1)=2*o.ch-1:=jX _ oX;have vz:IntKind.i64.wrap (2*o.ch)=2*o.ch:=jX _ oX;refine wp_region_still_tail 16 kX kX ?_;change wpStill _ _ w2.drew (fun a=>wpList _ _ _ _ a w2.drew) _ _;simp only[sS,aW1,sU,rC];repeat still_step
  refine wpStill_nil ?_;clear hs vz;go_wp2_with (go_at_call 103;refine(zy tm.out.aI HM).mono ?_;rintro e wN ⟨⟨bb,rfl⟩,X⟩;have RN:=X.bj;obtain⟨p0,p1,p2,p3,p4,p5,p6,p7⟩:=jo X.head;have e2:=RN.dM;have e3:=RN.eu;have k11:=RN.g nU 11 _ rfl;have aB3:=RN.frozen RN.aB.gs (g*25+11);have nb:=X.ne RN.aB.gs;have Kn:=nb.symm;have X4:=X.g nU {x with bJ:=S2.av} (q:=11) (v:=I S2.av);have ux:=ag X4;clear X4;have My:=ag X;clear X RN);go_region
  all_goals
   go_wp2_with (go_at_call 98;refine(ig (S:=S2.ay g {x with bJ:=S2.av}) ux.out.aI g (az nU) o ca o.cases.length cc 12).mono ?_;rintro e wN ⟨rfl,X⟩;have uz:=ag X;clear X);go_ret;exact⟨rfl,m,uz.out.at_.eq aA⟩
theorem TK(hp:x.ae≠1∧x.ae≠2∧x.ae≠5∧x.ae≠6∧x.ae≠7∧x.ae≠8∧x.ae≠9∧x.ae≠10∧x.ae≠11∧x.ae≠14)(S':Wd)(d:Bool)(hm:gH S g=some (S',d)):Calls prog 61 #[bR F,I g] w (eL (.bool d) (To af F m w S')):=by
 obtain⟨pl,kM⟩:∃pl,x.ae=pl:=⟨_,rfl⟩;rw[kM]at hp;obtain⟨n1,n2,n5,n6,n7,n8,n9,n10,n11,n14⟩:=hp;have b1:(pl==1)=false:=by simpa using n1
 have b2:(pl==2)=false:=by simpa using n2
 have b5:(pl==5)=false:=by simpa using n5
 have b6:(pl==6)=false:=by simpa using n6
 have b7:(pl==7)=false:=by simpa using n7
 have b8:(pl==8)=false:=by simpa using n8
 have b9:(pl==9)=false:=by simpa using n9
 have b10:(pl==10)=false:=by simpa using n10
 have b11:(pl==11)=false:=by simpa using n11
 have b14:(pl==14)=false:=by simpa using n14
 clear n1 n2 n5 n6 n7 n8 n9 n10 n11 n14;have eM:=cA hx;have HR:=ag (At.refl R);rcases hk with hk|hk
 all_goals
  first
   |have jO:(o.ai !=2)=false:=bj1
   |(have jO:(o.ai !=2)=true:=by rw[hk];rfl
     have Eu:(o.ai !=4)=false:=bj1)
  obtain⟨HX,HO,HP,ie,HM⟩:=jW hx ho kM aG hm;clear R hx ho kM hk aG hm;unfold bR;go_enter func61,ntmps61;go_wp2_with (go_at_call 92;refine(dw HR g HX HO dj).mono ?_;rintro e w1 ⟨⟨cv,rfl,gE⟩,A1⟩;obtain⟨ca,cc,rfl⟩:=dm.shape gE;have R1:=A1.bj;have p2:=R1.g HX 2 _ rfl;rw[HP.out]at p2;have c3:=R1.eu;have cm:=R1.lt R1.aB.gs;have aU:=R1.lt R1.aB.al;have iv:=ag ((AB.qn A1).oP (eD o ca cc) (iY F g o ca o.cases.length cc));clear A1 R1 gE);go_wp2_with (go_at_call 105;refine(jP iv.out.aI ie HM).mono ?_;rintro e wN ⟨rfl,mN,X⟩;have uz:=ag X;clear X);go_ret;exact⟨rfl,ss uz⟩
end
theorem vm(R:bz af F w m S)(g:Nat)(x:bI)(hx:S.gs[g]?=some x)(o:cu)(ho:dH S g=o)(dj:o.cases.length≤1000)(hk:o.ai≠2∧o.ai≠4):Calls prog 61 #[bR F,I g] w (eL (.bool false) (To af F m w S)):=by
 have HR:=ag (At.refl R);have jO:(o.ai !=2)=true:=by simpa using hk.1
 have Eu:(o.ai !=4)=true:=by simpa using hk.2
 obtain⟨HX,HO⟩:=dA hx ho;clear R hx ho hk;unfold bR;go_enter func61,ntmps61;exact aX0
theorem dS{y:Option Wd}{S':Wd}{d:Bool}(h:yes y=some (S',d)):y=some S'∧d=true:=by
 cases y with
 |none=>simp[yes]at h
 |some z=>simp[yes]at h;exact⟨by rw[h.1],h.2⟩
theorem Jk(R:bz af F w m S)(aG:Good S)(g:Nat)(S':Wd)(d:Bool)(hm:jq S g=some (S',d)):Calls prog 61 #[.pointer (some ⟨F.al,0,none⟩),I g] w (eL (.bool d) (To af F m w S')):=by
 unfold jq at hm;simp only[bW,cI]at hm;obtain⟨o,ho,x,hx,hm⟩:=hm;obtain⟨ho,bO,dj⟩:=nB ho;by_cases hk:o.ai≠2∧o.ai≠4
 ·rw[aF hk]at hm
  cases hm;exact vm R g x hx o ho dj hk
 rw[aE hk]at hm;have hk:o.ai=2∨o.ai=4:=oX
 by_cases h1:x.ae=1
 ·rw[aF h1]at hm;obtain⟨hn,rfl⟩:=dS hm;exact pr R aG g x hx o ho bO dj hk _ (.inl ⟨h1,hn⟩)
 rw[aE h1]at hm;by_cases h2:x.ae=2
 ·rw[aF h2]at hm;obtain⟨hn,rfl⟩:=dS hm;exact pr R aG g x hx o ho bO dj hk _ (.inr (.inl ⟨h2,hn⟩))
 rw[aE h2]at hm;by_cases h5:x.ae=5
 ·rw[aF h5]at hm;obtain⟨hn,rfl⟩:=dS hm;exact pr R aG g x hx o ho bO dj hk _ (.inr (.inr (.inl ⟨h5,hn⟩)))
 rw[aE h5]at hm;by_cases h6:x.ae=6
 ·rw[aF h6]at hm;simp only[cI]at hm;obtain⟨⟨S2,ok⟩,h2,hm⟩:=hm
  cases ok with
  |true=>
   cases hm;exact Qh R aG g x hx o ho bO dj hk h6 _ h2
  |false=>
   obtain⟨hn,rfl⟩:=dS hm;exact Qi R aG g x hx o ho bO dj hk h6 _ _ h2 hn
 rw[aE h6]at hm;by_cases h7:x.ae=7
 ·rw[aF h7]at hm;obtain⟨hn,rfl⟩:=dS hm;exact pr R aG g x hx o ho bO dj hk _ (.inr (.inr (.inr (.inl ⟨h7,hn⟩))))
 rw[aE h7]at hm;by_cases h8:x.ae=8
 ·rw[aF h8]at hm;obtain⟨hn,rfl⟩:=dS hm;exact pr R aG g x hx o ho bO dj hk _ (.inr (.inr (.inr (.inr (.inl ⟨h8,hn⟩)))))
 rw[aE h8]at hm;by_cases h9:x.ae=9
 ·rw[aF h9]at hm;obtain⟨hn,rfl⟩:=dS hm;exact pr R aG g x hx o ho bO dj hk _ (.inr (.inr (.inr (.inr (.inr (.inl ⟨h9,hn⟩))))))
 rw[aE h9]at hm;by_cases ph:x.ae=10
 ·rw[aF ph]at hm;obtain⟨hn,rfl⟩:=dS hm;exact pr R aG g x hx o ho bO dj hk _ (.inr (.inr (.inr (.inr (.inr (.inr (.inl ⟨ph,hn⟩)))))))
 rw[aE ph]at hm;by_cases rA:x.ae=11
 ·rw[aF rA]at hm;obtain⟨hn,rfl⟩:=dS hm;unfold rF at hn;simp only[bW,cI,hx,oZ,exists_eq_left']at hn;obtain⟨S2,h2,hn⟩:=hn;subst hn;exact Qj R aG g x hx o ho bO dj hk rA _ h2
 rw[aE rA]at hm;by_cases Dp:x.ae=14
 ·rw[aF Dp]at hm;obtain⟨hn,rfl⟩:=dS hm;exact pr R aG g x hx o ho bO dj hk _ (.inr (.inr (.inr (.inr (.inr (.inr (.inr ⟨Dp,hn⟩)))))))
 rw[aE Dp]at hm;exact TK R aG g x hx o ho bO dj hk ⟨h1,h2,h5,h6,h7,h8,h9,ph,rA,Dp⟩ _ _ hm
theorem Js(R:bz af F w m S)(aG:Good S)(g:Nat)(x:bI)(hx:S.gs[g]?=some x)(ch:Int)(bO:eX ch)(hp:x.ae=1∨x.ae=2∨x.ae=3)(S':Wd)(hm:lx S g ch=some S'):Calls prog 106 #[.pointer (some ⟨F.al,0,none⟩),I g,I ch] w (ee fun w'=>At af F m w m w' S'):=by
 unfold lx at hm;simp only[bW,hx,eN]at hm;by_cases h1:x.ae=1
 ·rw[aF h1]at hm;simp only[cI]at hm;obtain⟨b,hb,hm⟩:=hm
  cases b with
  |true=>
   simp only[dt]at hm;obtain⟨x2,kt,rfl⟩:=Nb hm;rw[hx]at kt
   cases kt;exact Pn R aG g x hx ch bO h1 hb
  |false=>
   simp only[nW,dF,oZ]at hm;subst hm;exact Po R aG g x hx ch bO h1 hb
 rw[aE h1]at hm;by_cases h2:x.ae=2
 ·rw[aF h2]at hm
  cases hb:dK S ch with
  |true=>
   simp only[hb,dt]at hm;obtain⟨x2,kt,rfl⟩:=Nb hm;rw[hx]at kt
   cases kt;exact Pp R aG g x hx ch bO h2 hb
  |false=>
   simp only[hb,nW,dF,oZ]at hm;subst hm;exact Pq R aG g x hx ch bO h2 hb
 rw[aE h2]at hm;simp only[cI]at hm;obtain⟨b,hb,hm⟩:=hm
 cases b with
 |true=>
  simp only[dt,oZ]at hm;subst hm;exact Pr R aG g x hx ch bO oX hb
 |false=>
  simp only[nW,dF,oZ]at hm;subst hm;exact Ps R aG g x hx ch bO oX hb
section
variable(X:AB af F m0 w0 m w S L)(aG:Good S)(g:Nat){x:bI}(hx:S.gs[g]?=some x)
include X aG g hx
theorem QD{ch:Int}(bO:eX ch)(hp:x.ae=1∨x.ae=2∨x.ae=3){S':Wd}(hm:lx S g ch=some S'):Calls prog 106 #[bR F,I g,I ch] w (ee fun w'=>∃m',AB af F m0 w0 m' w' S' L):=
 (Js X.bj aG g x hx ch bO hp S' hm).mono fun e w' ⟨h1,h2⟩=>⟨h1,m,X.av h2⟩
theorem Jt{o:cu}(bO:eX o.ch)(ca:Option Addr)(cn cc:Nat)(hp:x.ae=5∨x.ae=6∨x.ae=7∨x.ae=8∨x.ae=9){S':Wd}(hm:iE S g o=some S'):Calls prog 107 #[bR F,I g,.agg #[I o.ai,I o.ch,I o.n,I o.v,.slice ca cn cc,B o.dG]] w (ee fun w'=>∃m',AB af F m0 w0 m' w' S' L):=
 (DV X.bj aG g x hx o bO ca cn cc hp S' hm).mono fun e w' ⟨h1,m',h2⟩=>⟨h1,m',X.av h2⟩
theorem QE{ch:Int}(bO:eX ch)(hp:x.ae=10∨x.ae=11∨x.ae=14){S':Wd}(hm:j1 S g ch=some S'):Calls prog 108 #[bR F,I g,I ch] w (ee fun w'=>∃m',AB af F m0 w0 m' w' S' L):=
 (IT X.bj aG g x hx ch bO hp S' hm).mono fun e w' ⟨h1,m',h2⟩=>⟨h1,m',X.av h2⟩
end
theorem kG{g:Nat}{x:bI}(hx:S.gs[g]?=some x){o:cu}(ho:mf S g=some o)(hp:eO x.ae=false):gH S g=some (S,false):=by
 unfold eO at hp;simp only[decide_eq_false_iff_not,not_or]at hp;obtain⟨h4,uQ,uu,UW,SO,XJ⟩:=hp;unfold gH;simp only[bW,hx,ho,eN,aE h4,aE uQ,aE uu,aE UW,aE SO,aE XJ]
section
variable(R:bz af F w m S)(aG:Good S)(g:Nat)(x:bI)(hx:S.gs[g]?=some x)(o:cu)(ho:dH S g=o)(bO:eX o.ch)(dj:o.cases.length≤1000)(hk:o.ai=3∨o.ai=5)
include R aG g x hx o ho bO dj hk
theorem TU(hp:eO x.ae=true)(S':Wd)(hm:gH S g=some (S',true)):Calls prog 62 #[bR F,I g] w (oV (To af F m w S')):=by
 have eM:=cA hx;have HR:=ag (At.refl R);rcases hk with hk|hk
 all_goals
  first
   |have sk:(o.ai !=3)=false:=bj1
   |(have sk:(o.ai !=3)=true:=by rw[hk];rfl
     have Qs:(o.ai !=5)=false:=bj1)
  obtain⟨HX,HO,HP,ie,HM⟩:=jW hx ho hp aG hm;clear R hx ho hp hk aG hm;unfold bR;go_enter func62,ntmps62;go_wp2_with (go_at_call 92;refine(dw HR g HX HO dj).mono ?_;rintro e w1 ⟨⟨cv,rfl,gE⟩,A1⟩;obtain⟨ca,cc,rfl⟩:=dm.shape gE;have R1:=A1.bj;have p2:=R1.g HX 2 _ rfl;skip;have c3:=R1.eu;have cm:=R1.lt R1.aB.gs;have aU:=R1.lt R1.aB.al;have iv:=ag ((AB.qn A1).alloc (eD o ca cc));clear A1 R1 gE);go_wp2_with (go_at_call 105;refine(jP iv.out.aI ie HM).mono ?_;rintro e wN ⟨rfl,mN,X⟩;have uz:=ag X;clear X);go_ret;exact⟨rfl,ss uz⟩
theorem TV(hp:x.ae=1∨x.ae=2∨x.ae=3)(eK:mf S g=some o)(S':Wd)(hm:lx S g o.ch=some S'):Calls prog 62 #[bR F,I g] w (oV (To af F m w S')):=by
 have eM:=cA hx;have HR:=ag (At.refl R);rcases hk with hk|hk<;>rcases hp with hp|hp|hp
 all_goals
  first
   |have sk:(o.ai !=3)=false:=bj1
   |(have sk:(o.ai !=3)=true:=by rw[hk];rfl
     have Qs:(o.ai !=5)=false:=bj1)
  have lP:=ag eK;clear eK;obtain⟨HX,HO,HP,ie,HM⟩:=jW hx ho hp aG hm;clear R hx ho hp hk aG hm;unfold bR;go_enter func62,ntmps62;go_wp2_with (go_at_call 92;refine(dw HR g HX HO dj).mono ?_;rintro e w1 ⟨⟨cv,rfl,gE⟩,A1⟩;obtain⟨ca,cc,rfl⟩:=dm.shape gE;have R1:=A1.bj;have p2:=R1.g HX 2 _ rfl;skip;have c3:=R1.eu;have cm:=R1.lt R1.aB.gs;have aU:=R1.lt R1.aB.al;have iv:=ag ((AB.qn A1).alloc (eD o ca cc));clear A1 R1 gE);go_wp2_with (first|(go_at_call 105;refine(jP iv.out.aI ie (kG HX lP bm4)).mono ?_;rintro e wN ⟨rfl,mN,X⟩;have RN:=X.bj;obtain⟨q0,q1,q2,q3,q4,q5⟩:=jD X.head;have p2:=RN.g HX 2 _ rfl;rw[HP.out]at p2;have c3:=RN.eu;have wG:=ag X;clear X RN)|(go_at_call 106;refine(QD wG.out.aI ie g HX bO bm4 HM).mono ?_;rintro e Yd ⟨rfl,mN2,X⟩;have uz:=ag X;clear X));go_ret;exact⟨rfl,ss uz⟩
theorem TW(hp:x.ae=5∨x.ae=6∨x.ae=7∨x.ae=8∨x.ae=9)(eK:mf S g=some o)(S':Wd)(hm:iE S g o=some S'):Calls prog 62 #[bR F,I g] w (oV (To af F m w S')):=by
 have eM:=cA hx;have HR:=ag (At.refl R);rcases hk with hk|hk<;>rcases hp with hp|hp|hp|hp|hp
 all_goals
  first
   |have sk:(o.ai !=3)=false:=bj1
   |(have sk:(o.ai !=3)=true:=by rw[hk];rfl
     have Qs:(o.ai !=5)=false:=bj1)
  have lP:=ag eK;clear eK;obtain⟨HX,HO,HP,ie,HM⟩:=jW hx ho hp aG hm;clear R hx ho hp hk aG hm;unfold bR;go_enter func62,ntmps62;go_wp2_with (go_at_call 92;refine(dw HR g HX HO dj).mono ?_;rintro e w1 ⟨⟨cv,rfl,gE⟩,A1⟩;obtain⟨ca,cc,rfl⟩:=dm.shape gE;have R1:=A1.bj;have p2:=R1.g HX 2 _ rfl;skip;have c3:=R1.eu;have cm:=R1.lt R1.aB.gs;have aU:=R1.lt R1.aB.al;have iv:=ag ((AB.qn A1).alloc (eD o ca cc));clear A1 R1 gE);go_wp2_with (first|(go_at_call 105;refine(jP iv.out.aI ie (kG HX lP bm4)).mono ?_;rintro e wN ⟨rfl,mN,X⟩;have RN:=X.bj;obtain⟨q0,q1,q2,q3,q4,q5⟩:=jD X.head;have p2:=RN.g HX 2 _ rfl;rw[HP.out]at p2;have c3:=RN.eu;have wG:=ag X;clear X RN)|(go_at_call 107;refine(Jt wG.out.aI ie g HX bO ca o.cases.length cc bm4 HM).mono ?_;rintro e Yd ⟨rfl,mN2,X⟩;have uz:=ag X;clear X));go_ret;exact⟨rfl,ss uz⟩
theorem QF(hp:x.ae=10∨x.ae=11∨x.ae=14)(eK:mf S g=some o)(S':Wd)(hm:j1 S g o.ch=some S'):Calls prog 62 #[bR F,I g] w (oV (To af F m w S')):=by
 have eM:=cA hx;have HR:=ag (At.refl R);rcases hk with hk|hk<;>rcases hp with hp|hp|hp
 all_goals
  first
   |have sk:(o.ai !=3)=false:=bj1
   |(have sk:(o.ai !=3)=true:=by rw[hk];rfl
     have Qs:(o.ai !=5)=false:=bj1)
  have lP:=ag eK;clear eK;obtain⟨HX,HO,HP,ie,HM⟩:=jW hx ho hp aG hm;clear R hx ho hp hk aG hm;unfold bR;go_enter func62,ntmps62;go_wp2_with (go_at_call 92;refine(dw HR g HX HO dj).mono ?_;rintro e w1 ⟨⟨cv,rfl,gE⟩,A1⟩;obtain⟨ca,cc,rfl⟩:=dm.shape gE;have R1:=A1.bj;have p2:=R1.g HX 2 _ rfl;skip;have c3:=R1.eu;have cm:=R1.lt R1.aB.gs;have aU:=R1.lt R1.aB.al;have iv:=ag ((AB.qn A1).alloc (eD o ca cc));clear A1 R1 gE);go_wp2_with (first|(go_at_call 105;refine(jP iv.out.aI ie (kG HX lP bm4)).mono ?_;rintro e wN ⟨rfl,mN,X⟩;have RN:=X.bj;obtain⟨q0,q1,q2,q3,q4,q5⟩:=jD X.head;have p2:=RN.g HX 2 _ rfl;rw[HP.out]at p2;have c3:=RN.eu;have wG:=ag X;clear X RN)|(go_at_call 108;refine(QE wG.out.aI ie g HX bO bm4 HM).mono ?_;rintro e Yd ⟨rfl,mN2,X⟩;have uz:=ag X;clear X));go_ret;exact⟨rfl,ss uz⟩
end
theorem Gw(R:bz af F w m S)(g:Nat)(x:bI)(hx:S.gs[g]?=some x)(o:cu)(ho:dH S g=o)(dj:o.cases.length≤1000)(hk:o.ai≠3∧o.ai≠5):Calls prog 62 #[bR F,I g] w (eL (.bool false) (To af F m w S)):=by
 have HR:=ag (At.refl R);have jO:(o.ai !=3)=true:=by simpa using hk.1
 have Eu:(o.ai !=5)=true:=by simpa using hk.2
 obtain⟨HX,HO⟩:=dA hx ho;clear R hx ho hk;unfold bR;go_enter func62,ntmps62;exact aX0
theorem Ju(R:bz af F w m S)(aG:Good S)(g:Nat)(S':Wd)(hm:jr S g=some (S',true)):Calls prog 62 #[.pointer (some ⟨F.al,0,none⟩),I g] w (oV (To af F m w S')):=by
 unfold jr at hm;simp only[bW,cI]at hm;obtain⟨o,eK,x,hx,hm⟩:=hm;obtain⟨ho,bO,dj⟩:=nB eK;by_cases hk:o.ai≠3∧o.ai≠5
 ·rw[aF hk]at hm
  cases hm
 rw[aE hk]at hm;have hk:o.ai=3∨o.ai=5:=oX
 by_cases hc:eO x.ae=true
 ·rw[aF hc]at hm;exact TU R aG g x hx o ho bO dj hk hc _ hm
 rw[aE hc]at hm;by_cases hp:x.ae=1∨x.ae=2∨x.ae=3
 ·rw[aF hp]at hm;have hn:=(dS hm).1;exact TV R aG g x hx o ho bO dj hk hp eK _ hn
 rw[aE hp]at hm;by_cases hp:x.ae=5∨x.ae=6∨x.ae=7∨x.ae=8∨x.ae=9
 ·rw[aF hp]at hm;have hn:=(dS hm).1;exact TW R aG g x hx o ho bO dj hk hp eK _ hn
 rw[aE hp]at hm;by_cases hp:x.ae=10∨x.ae=11∨x.ae=14
 ·rw[aF hp]at hm;have hn:=(dS hm).1;exact QF R aG g x hx o ho bO dj hk hp eK _ hn
 rw[aE hp]at hm
 cases hm
section
variable(X:AB af F m0 w0 m w S L)
include X
theorem TX(aG:Good S)(g:Nat){ch:Int}(bO:eX ch){S':Wd}(hm:uD S g ch=some S'):Calls prog 109 #[bR F,I g,I ch] w (ee fun w'=>∃m',AB af F m0 w0 m' w' S' L):=
 (Mh X.bj aG g ch bO S' hm).mono fun e w' ⟨h1,h2⟩=>⟨h1,m,X.av h2⟩
theorem QG(g:Nat){ch:Int}(bO:eX ch){S':Wd}(hm:qt S g ch=some S'):Calls prog 110 #[bR F,I g,I ch] w (ee fun w'=>∃m',AB af F m0 w0 m' w' S' L):=
 (Jr X.bj g ch bO S' hm).mono fun e w' ⟨h1,m',h2⟩=>⟨h1,m',X.av h2⟩
theorem Gx(g:Nat){S':Wd}(hm:ly S g=some S'):Calls prog 111 #[bR F,I g] w (ee fun w'=>∃m',AB af F m0 w0 m' w' S' L):=
 (Bn X.bj g S' hm).mono fun e w' ⟨h1,m',h2⟩=>⟨h1,m',X.av h2⟩
end
section
variable(R:bz af F w m S)(aG:Good S)(g:Nat)(x:bI)(hx:S.gs[g]?=some x)(o:cu)(ho:dH S g=o)(bO:eX o.ch)(dj:o.cases.length≤1000)(hk:o.ai=6)
include R aG g x hx o ho bO dj hk
theorem TZ(hp:eO x.ae=true)(S':Wd)(hm:gH S g=some (S',true)):Calls prog 63 #[bR F,I g] w (oV (To af F m w S')):=by
 have eM:=cA hx;have HR:=ag (At.refl R);have Qt:(o.ai !=6)=false:=bj1
 obtain⟨HX,HO,HP,ie,HM⟩:=jW hx ho hp aG hm;clear R hx ho hp hk aG hm;unfold bR;go_enter func63,ntmps63;go_wp2_with (go_at_call 92;refine(dw HR g HX HO dj).mono ?_;rintro e w1 ⟨⟨cv,rfl,gE⟩,A1⟩;obtain⟨ca,cc,rfl⟩:=dm.shape gE;have R1:=A1.bj;have p2:=R1.g HX 2 _ rfl;have c3:=R1.eu;have cm:=R1.lt R1.aB.gs;have aU:=R1.lt R1.aB.al;have iv:=ag ((AB.qn A1).alloc (eD o ca cc));clear A1 R1 gE);go_wp2_with (go_at_call 105;refine(jP iv.out.aI ie HM).mono ?_;rintro e wN ⟨rfl,mN,X⟩;have uz:=ag X;clear X);go_ret;exact⟨rfl,ss uz⟩
theorem QH(hp:x.ae=21)(eK:mf S g=some o)(S':Wd)(hm:uD S g o.ch=some S'):Calls prog 63 #[bR F,I g] w (oV (To af F m w S')):=by
 have eM:=cA hx;have HR:=ag (At.refl R);have Qt:(o.ai !=6)=false:=bj1
 have lP:=ag eK;clear eK;obtain⟨HX,HO,HP,ie,HM⟩:=jW hx ho hp aG hm;clear R hx ho hp hk aG hm;unfold bR;go_enter func63,ntmps63;go_wp2_with (go_at_call 92;refine(dw HR g HX HO dj).mono ?_;rintro e w1 ⟨⟨cv,rfl,gE⟩,A1⟩;obtain⟨ca,cc,rfl⟩:=dm.shape gE;have R1:=A1.bj;have p2:=R1.g HX 2 _ rfl;have c3:=R1.eu;have cm:=R1.lt R1.aB.gs;have aU:=R1.lt R1.aB.al;have iv:=ag ((AB.qn A1).alloc (eD o ca cc));clear A1 R1 gE);go_wp2_with (first|(go_at_call 105;refine(jP iv.out.aI ie (kG HX lP bm4)).mono ?_;rintro e wN ⟨rfl,mN,X⟩;have RN:=X.bj;obtain⟨q0,q1,q2,q3,q4,q5⟩:=jD X.head;have p2:=RN.g HX 2 _ rfl;rw[HP.out]at p2;have c3:=RN.eu;have wG:=ag X;clear X RN)|(go_at_call 109;refine(TX wG.out.aI ie g bO HM).mono ?_;rintro e Yd ⟨rfl,mN2,X⟩;have uz:=ag X;clear X));go_ret;exact⟨rfl,ss uz⟩
theorem QI(hp:x.ae=22)(eK:mf S g=some o)(S':Wd)(hm:qt S g o.ch=some S'):Calls prog 63 #[bR F,I g] w (oV (To af F m w S')):=by
 have eM:=cA hx;have HR:=ag (At.refl R);have Qt:(o.ai !=6)=false:=bj1
 have lP:=ag eK;clear eK;obtain⟨HX,HO,HP,ie,HM⟩:=jW hx ho hp aG hm;clear R hx ho hp hk aG hm;unfold bR;go_enter func63,ntmps63;go_wp2_with (go_at_call 92;refine(dw HR g HX HO dj).mono ?_;rintro e w1 ⟨⟨cv,rfl,gE⟩,A1⟩;obtain⟨ca,cc,rfl⟩:=dm.shape gE;have R1:=A1.bj;have p2:=R1.g HX 2 _ rfl;have c3:=R1.eu;have cm:=R1.lt R1.aB.gs;have aU:=R1.lt R1.aB.al;have iv:=ag ((AB.qn A1).alloc (eD o ca cc));clear A1 R1 gE);go_wp2_with (first|(go_at_call 105;refine(jP iv.out.aI ie (kG HX lP bm4)).mono ?_;rintro e wN ⟨rfl,mN,X⟩;have RN:=X.bj;obtain⟨q0,q1,q2,q3,q4,q5⟩:=jD X.head;have p2:=RN.g HX 2 _ rfl;rw[HP.out]at p2;have c3:=RN.eu;have wG:=ag X;clear X RN)|(go_at_call 110;refine(QG wG.out.aI g bO HM).mono ?_;rintro e Yd ⟨rfl,mN2,X⟩;have uz:=ag X;clear X));go_ret;exact⟨rfl,ss uz⟩
theorem QJ(hp:x.ae=23)(eK:mf S g=some o)(S':Wd)(hm:ly S g=some S'):Calls prog 63 #[bR F,I g] w (oV (To af F m w S')):=by
 have eM:=cA hx;have HR:=ag (At.refl R);have Qt:(o.ai !=6)=false:=bj1
 have lP:=ag eK;clear eK;obtain⟨HX,HO,HP,ie,HM⟩:=jW hx ho hp aG hm;clear R hx ho hp hk aG hm;unfold bR;go_enter func63,ntmps63;go_wp2_with (go_at_call 92;refine(dw HR g HX HO dj).mono ?_;rintro e w1 ⟨⟨cv,rfl,gE⟩,A1⟩;obtain⟨ca,cc,rfl⟩:=dm.shape gE;have R1:=A1.bj;have p2:=R1.g HX 2 _ rfl;have c3:=R1.eu;have cm:=R1.lt R1.aB.gs;have aU:=R1.lt R1.aB.al;have iv:=ag ((AB.qn A1).alloc (eD o ca cc));clear A1 R1 gE);go_wp2_with (first|(go_at_call 105;refine(jP iv.out.aI ie (kG HX lP bm4)).mono ?_;rintro e wN ⟨rfl,mN,X⟩;have RN:=X.bj;obtain⟨q0,q1,q2,q3,q4,q5⟩:=jD X.head;have p2:=RN.g HX 2 _ rfl;rw[HP.out]at p2;have c3:=RN.eu;have wG:=ag X;clear X RN)|(go_at_call 111;refine(Gx wG.out.aI g HM).mono ?_;rintro e Yd ⟨rfl,mN2,X⟩;have uz:=ag X;clear X));go_ret;exact⟨rfl,ss uz⟩
end
theorem QK(R:bz af F w m S)(g:Nat)(x:bI)(hx:S.gs[g]?=some x)(o:cu)(ho:dH S g=o)(dj:o.cases.length≤1000)(hk:o.ai≠6):Calls prog 63 #[bR F,I g] w (eL (.bool false) (To af F m w S)):=by
 have HR:=ag (At.refl R);have jO:(o.ai !=6)=true:=bn3
 obtain⟨HX,HO⟩:=dA hx ho;clear R hx ho hk;unfold bR;go_enter func63,ntmps63;exact aX0
theorem Jv(R:bz af F w m S)(aG:Good S)(g:Nat)(S':Wd)(hm:js S g=some (S',true)):Calls prog 63 #[.pointer (some ⟨F.al,0,none⟩),I g] w (oV (To af F m w S')):=by
 unfold js at hm;simp only[bW,cI]at hm;obtain⟨o,eK,x,hx,hm⟩:=hm;obtain⟨ho,bO,dj⟩:=nB eK;by_cases hk:o.ai≠6
 ·rw[aF hk]at hm
  cases hm
 rw[aE hk]at hm;have hk:o.ai=6:=oX
 by_cases hc:eO x.ae=true
 ·rw[aF hc]at hm;exact TZ R aG g x hx o ho bO dj hk hc _ hm
 rw[aE hc]at hm;by_cases hp:x.ae=21
 ·rw[aF hp]at hm;exact QH R aG g x hx o ho bO dj hk hp eK _ (dS hm).1
 rw[aE hp]at hm;by_cases hp:x.ae=22
 ·rw[aF hp]at hm;exact QI R aG g x hx o ho bO dj hk hp eK _ (dS hm).1
 rw[aE hp]at hm;by_cases hp:x.ae=23
 ·rw[aF hp]at hm;exact QJ R aG g x hx o ho bO dj hk hp eK _ (dS hm).1
 rw[aE hp]at hm
 cases hm
end
end Go.Proofs.YtadifmnmfnihdaaGreat
