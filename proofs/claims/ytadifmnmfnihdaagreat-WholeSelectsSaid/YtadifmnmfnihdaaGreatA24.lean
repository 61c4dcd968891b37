import Derived.Test.YtadifmnmfnihdaaGreatA21
set_option linter.all false
set_option maxRecDepth 100000
set_option maxHeartbeats 40000000
namespace Go.Proofs.YtadifmnmfnihdaaGreat
open Go.RowKit Mach Go.Proofs.Tryz
section
variable{af:Nat}{F:Fx}{w w0 w':World}{m m0 m':Mem}{S S':Wd}{L:List (Nat×Obj)}
theorem pr(R:bz af F w m S)(aG:Good S)(g:Nat)(x:bI)(hx:S.gs[g]?=some x)(o:cu)(ho:dH S g=o)(bO:eX o.ch)(dj:o.cases.length≤1000)(hk:o.ai=2∨o.ai=4)(S':Wd)(hm:(x.ae=1∧ll S g o.ch=some S')∨(x.ae=2∧jG S g o.ch=some S')∨(x.ae=5∧jH S g o.ch=some S')∨(x.ae=7∧rD S g 6 8=some S')∨(x.ae=8∧lp S g o.v=some S')∨(x.ae=9∧jY S g o=some S')∨(x.ae=10∧rE S g {cK:=true,g:=g,ch:=o.ch,case:= -1,cF:=true,v:=o.v}=some S')∨(x.ae=14∧lu S g=some S')):Calls prog 61 #[bR F,I g] w (oV (To af F m w S')):=by
 have eM:=cA hx;have HR:=ag (At.refl R);rcases hk with hk|hk<;>rcases hm with⟨hp,hm⟩|⟨hp,hm⟩|⟨hp,hm⟩|⟨hp,hm⟩|⟨hp,hm⟩|⟨hp,hm⟩|⟨hp,hm⟩|⟨hp,hm⟩
 all_goals
  first
   |have jO:(o.ai !=2)=false:=by rw[hk];rfl
   |(have jO:(o.ai !=2)=true:=by rw[hk];rfl
     have Eu:(o.ai !=4)=false:=by rw[hk];rfl)
  obtain⟨HX,HO,HP,ie,HM⟩:=jW hx ho hp aG hm;clear R hx ho hp hk aG hm;unfold bR;go_enter func61,ntmps61;go_wp2_with (go_at_call 92;refine(dw HR.out g HX.out HO.out dj).mono ?_;rintro e w1 ⟨⟨cv,rfl,gE⟩,A1⟩;obtain⟨ca,cc,rfl⟩:=dm.shape gE;have R1:=A1.bj;have p2:=R1.g HX.out 2 _ rfl;rw[HP.out]at p2;have c3:=R1.eu;have cm:=R1.lt R1.aB.gs;have aU:=R1.lt R1.aB.al;have iv:=ag ((AB.qn A1).oP (eD o ca cc) (iY F g o ca o.cases.length cc));clear A1 R1 gE);go_wp2_with (first|(go_at_call 93;refine(PN (af:=af) (F:=F) (m0:=m) (w0:=w) (m:=m) (L:=[(w1.heap.size+1,iY F g o ca o.cases.length cc),(w1.heap.size,eD o ca cc)]) (S:=S) ?_ g o bO ca o.cases.length cc HM.out).mono ?_;exact iv.out.aI;rintro e wN ⟨rfl,X⟩;have RN:=X.bj;have uz:=ag X;clear X RN)|(go_at_call 94;refine(Mr (af:=af) (F:=F) (m0:=m) (w0:=w) (m:=m) (L:=[(w1.heap.size+1,iY F g o ca o.cases.length cc),(w1.heap.size,eD o ca cc)]) (S:=S) ?_ g o ie.out bO ca o.cases.length cc HM.out).mono ?_;exact iv.out.aI;rintro e wN ⟨rfl,X⟩;have RN:=X.bj;have uz:=ag X;clear X RN)|(go_at_call 95;refine(Ms (af:=af) (F:=F) (m0:=m) (w0:=w) (m:=m) (L:=[(w1.heap.size+1,iY F g o ca o.cases.length cc),(w1.heap.size,eD o ca cc)]) (S:=S) ?_ g o ie.out bO ca o.cases.length cc HM.out).mono ?_;exact iv.out.aI;rintro e wN ⟨rfl,X⟩;have RN:=X.bj;have uz:=ag X;clear X RN)|(go_at_call 99;refine(PS (af:=af) (F:=F) (m0:=m) (w0:=w) (m:=m) (L:=[(w1.heap.size+1,iY F g o ca o.cases.length cc),(w1.heap.size,eD o ca cc)]) (S:=S) ?_ HM.out).mono ?_;exact iv.out.aI;rintro e wN ⟨rfl,X⟩;have RN:=X.bj;have uz:=ag X;clear X RN)|(go_at_call 100;refine(PO (af:=af) (F:=F) (m0:=m) (w0:=w) (m:=m) (L:=[(w1.heap.size+1,iY F g o ca o.cases.length cc),(w1.heap.size,eD o ca cc)]) (S:=S) ?_ g o ca o.cases.length cc HM.out).mono ?_;exact iv.out.aI;rintro e wN ⟨rfl,mN,X⟩;have RN:=X.bj;have uz:=ag X;clear X RN)|(go_at_call 101;refine(PQ (af:=af) (F:=F) (m0:=m) (w0:=w) (m:=m) (L:=[(w1.heap.size+1,iY F g o ca o.cases.length cc),(w1.heap.size,eD o ca cc)]) (S:=S) ?_ g o ie.out bO ca o.cases.length cc HM.out).mono ?_;exact iv.out.aI;rintro e wN ⟨rfl,X⟩;have RN:=X.bj;have uz:=ag X;clear X RN)|(go_at_call 102;refine(Ti (af:=af) (F:=F) (m0:=m) (w0:=w) (m:=m) (L:=[(w1.heap.size+1,iY F g o ca o.cases.length cc),(w1.heap.size,eD o ca cc)]) (S:=S) ?_ ie.out HM.out).mono ?_;exact iv.out.aI;rintro e wN ⟨rfl,mN,X⟩;have RN:=X.bj;have uz:=ag X;clear X RN)|(go_at_call 104;refine(PR (af:=af) (F:=F) (m0:=m) (w0:=w) (m:=m) (L:=[(w1.heap.size+1,iY F g o ca o.cases.length cc),(w1.heap.size,eD o ca cc)]) (S:=S) ?_ g o ca o.cases.length cc HM.out).mono ?_;exact iv.out.aI;rintro e wN ⟨rfl,X⟩;have RN:=X.bj;have uz:=ag X;clear X RN));go_ret;exact⟨rfl,ss uz.out⟩
theorem Qh(R:bz af F w m S)(aG:Good S)(g:Nat)(x:bI)(hx:S.gs[g]?=some x)(o:cu)(ho:dH S g=o)(bO:eX o.ch)(dj:o.cases.length≤1000)(hk:o.ai=2∨o.ai=4)(hp:x.ae=6)(S':Wd)(hm:Mach.take S g (2*o.ch-2) 7 8=some (S',true)):Calls prog 61 #[bR F,I g] w (oV (To af F m w S')):=by
 have eM:=cA hx;have HR:=ag (At.refl R);rcases hk with hk|hk
 all_goals
  first
   |have jO:(o.ai !=2)=false:=by rw[hk];rfl
   |(have jO:(o.ai !=2)=true:=by rw[hk];rfl
     have Eu:(o.ai !=4)=false:=by rw[hk];rfl)
  obtain⟨HX,HO,HP,ie,HM⟩:=jW hx ho hp aG hm;clear R hx ho hp hk aG hm;unfold bR;go_enter func61,ntmps61;go_wp2_with (go_at_call 92;refine(dw HR.out g HX.out HO.out dj).mono ?_;rintro e w1 ⟨⟨cv,rfl,gE⟩,A1⟩;obtain⟨ca,cc,rfl⟩:=dm.shape gE;have R1:=A1.bj;have p2:=R1.g HX.out 2 _ rfl;rw[HP.out]at p2;have c3:=R1.eu;have cm:=R1.lt R1.aB.gs;have aU:=R1.lt R1.aB.al;have iv:=ag ((AB.qn A1).oP (eD o ca cc) (iY F g o ca o.cases.length cc));clear A1 R1 gE);go_wp2_with (first|(go_at_call 97;refine(uf (af:=af) (F:=F) (m0:=m) (w0:=w) (m:=m) (L:=[(w1.heap.size+1,iY F g o ca o.cases.length cc),(w1.heap.size,eD o ca cc)]) (S:=S) ?_ g o bO ca o.cases.length cc).mono ?_;exact iv.out.aI;rintro e wN ⟨rfl,X⟩;have RN:=X.bj;have wG:=ag X;clear X RN)|(go_at_call 96;refine(ot (af:=af) (F:=F) (m0:=m) (w0:=w) (m:=m) (L:=[(w1.heap.size+1,iY F g o ca o.cases.length cc),(w1.heap.size,eD o ca cc)]) (S:=S) ?_ HM.out).mono ?_;exact wG.out;rintro e wN ⟨rfl,X⟩;have RN:=X.bj;obtain⟨p0,p1,p2,p3,p4,p5,p6,p7⟩:=jo X.head;have My:=ag X;clear X RN));go_ret;exact⟨rfl,ss My.out⟩
theorem Qi(R:bz af F w m S)(aG:Good S)(g:Nat)(x:bI)(hx:S.gs[g]?=some x)(o:cu)(ho:dH S g=o)(bO:eX o.ch)(dj:o.cases.length≤1000)(hk:o.ai=2∨o.ai=4)(hp:x.ae=6)(S2 S':Wd)(hm:Mach.take S g (2*o.ch-2) 7 8=some (S2,false))(hm2:cD S2 g 9=some S'):Calls prog 61 #[bR F,I g] w (oV (To af F m w S')):=by
 obtain⟨x2,kt,rfl⟩:=dr hm2;have nU:=ag kt;clear hm2 kt;have eM:=cA hx;have HR:=ag (At.refl R);rcases hk with hk|hk
 all_goals
  first
   |have jO:(o.ai !=2)=false:=by rw[hk];rfl
   |(have jO:(o.ai !=2)=true:=by rw[hk];rfl
     have Eu:(o.ai !=4)=false:=by rw[hk];rfl)
  obtain⟨HX,HO,HP,ie,HM⟩:=jW hx ho hp aG hm;clear R hx ho hp hk aG hm;unfold bR;go_enter func61,ntmps61;go_wp2_with (go_at_call 92;refine(dw HR.out g HX.out HO.out dj).mono ?_;rintro e w1 ⟨⟨cv,rfl,gE⟩,A1⟩;obtain⟨ca,cc,rfl⟩:=dm.shape gE;have R1:=A1.bj;have p2:=R1.g HX.out 2 _ rfl;rw[HP.out]at p2;have c3:=R1.eu;have cm:=R1.lt R1.aB.gs;have aU:=R1.lt R1.aB.al;have iv:=ag ((AB.qn A1).oP (eD o ca cc) (iY F g o ca o.cases.length cc));clear A1 R1 gE);go_wp2_with (first|(go_at_call 97;refine(uf (af:=af) (F:=F) (m0:=m) (w0:=w) (m:=m) (L:=[(w1.heap.size+1,iY F g o ca o.cases.length cc),(w1.heap.size,eD o ca cc)]) (S:=S) ?_ g o bO ca o.cases.length cc).mono ?_;exact iv.out.aI;rintro e wN ⟨rfl,X⟩;have RN:=X.bj;have wG:=ag X;clear X RN)|(go_at_call 96;refine(ot (af:=af) (F:=F) (m0:=m) (w0:=w) (m:=m) (L:=[(w1.heap.size+1,iY F g o ca o.cases.length cc),(w1.heap.size,eD o ca cc)]) (S:=S) ?_ HM.out).mono ?_;exact wG.out;rintro e wN ⟨rfl,X⟩;have RN:=X.bj;obtain⟨p0,p1,p2,p3,p4,p5,p6,p7⟩:=jo X.head;have My:=ag X;clear X RN)|(go_at_call 98;refine(ig (af:=af) (F:=F) (m0:=m) (w0:=w) (m:=m) (L:=[(w1.heap.size+1,iY F g o ca o.cases.length cc),(w1.heap.size,eD o ca cc)]) (S:=S2) ?_ g nU.out o ca o.cases.length cc 9).mono ?_;exact My.out;rintro e wN ⟨rfl,X⟩;have RN:=X.bj;have uz:=ag X;clear X RN));go_ret;exact⟨rfl,ss uz.out⟩
theorem Qj(R:bz af F w m S)(aG:Good S)(g:Nat)(x:bI)(hx:S.gs[g]?=some x)(o:cu)(ho:dH S g=o)(bO:eX o.ch)(dj:o.cases.length≤1000)(hk:o.ai=2∨o.ai=4)(hp:x.ae=11)(S2:Wd)(hm:lh S (2*o.ch-1) x.bY=some S2):Calls prog 61 #[bR F,I g] w (oV fun w'=>To af F m w (S2.ay g {x with bJ:=S2.av,ae:=12}) w'):=by
 obtain⟨mi,Pz⟩:∃mi,x.bY=mi:=⟨_,rfl⟩;have HMI:=ag Pz;rw[Pz]at hm;clear Pz;have WY:S2.gs=S.gs:=by obtain⟨q,b,_,rfl⟩:=qk hm;rfl
 have nU:Hid (S2.gs[g]?=some x):=by rw[WY];exact hx
 have Me:g<S2.gs.length:=by rw[WY];exact(cA hx)
 clear WY;have eM:=cA hx;have HR:=ag (At.refl R);rcases hk with hk|hk
 all_goals
  first
   |have jO:(o.ai !=2)=false:=by rw[hk];rfl
   |(have jO:(o.ai !=2)=true:=by rw[hk];rfl
     have Eu:(o.ai !=4)=false:=by rw[hk];rfl)
  obtain⟨HX,HO,HP,ie,HM⟩:=jW hx ho hp aG hm;clear R hx ho hp hk aG hm;unfold bR;go_enter func61,ntmps61;go_wp2_with (go_at_call 92;refine(dw HR.out g HX.out HO.out dj).mono ?_;rintro e w1 ⟨⟨cv,rfl,gE⟩,A1⟩;obtain⟨ca,cc,rfl⟩:=dm.shape gE;have R1:=A1.bj;have p2:=R1.g HX.out 2 _ rfl;rw[HP.out]at p2;have c3:=R1.eu;have cm:=R1.lt R1.aB.gs;have aU:=R1.lt R1.aB.al;have c8:=R1.dR;have g8:=R1.g HX.out 8 _ rfl;rw[HMI.out]at g8;obtain⟨w2,nt,X2⟩:∃w2,w2=_∧AB af F m w m w2 S [(w1.heap.size+1,iY F g o ca o.cases.length cc),(w1.heap.size,eD o ca cc)]:=⟨_,rfl,(AB.qn A1).oP (eD o ca cc) (iY F g o ca o.cases.length cc)⟩;obtain⟨p0,p1,Nx,p3,p4,p5,p6,p7⟩:=jo X2.head;obtain⟨o0,o1,o2,o3,o4,o5⟩:=jD (X2.loc (w1.heap.size,eD o ca cc) (nO _ (rn ..))).1;have d3:=X2.bj.eu;have d8:=X2.bj.dR;have k8:=X2.bj.g HX.out 8 _ rfl;rw[HMI.out]at k8;have tm:=ag X2;clear X2 A1 R1 gE);rw[←nt];clear nt;have hs:IntKind.i64.wrap (2*o.ch-1)=2*o.ch-1:=jX _ (by omega);have vz:IntKind.i64.wrap (2*o.ch)=2*o.ch:=jX _ (by omega);refine wp_region_still_tail 16 (by kernel_rfl) (by kernel_rfl) ?_;change wpStill _ _ w2.drew (fun a=>wpList _ _ _ _ a w2.drew) _ _;simp only[sS,sX,sU,rC];repeat still_step
  refine wpStill_nil ?_;clear hs vz;go_wp2_with (go_at_call 103;refine(zy (af:=af) (F:=F) (m0:=m) (w0:=w) (m:=m) (L:=[(w1.heap.size+1,iY F g o ca o.cases.length cc),(w1.heap.size,eD o ca cc)]) (S:=S) ?_ HM.out).mono ?_;exact tm.out.aI;rintro e wN ⟨⟨bb,rfl⟩,X⟩;have RN:=X.bj;obtain⟨p0,p1,p2,p3,p4,p5,p6,p7⟩:=jo X.head;have e2:=RN.dM;have e3:=RN.eu;have k11:=RN.g nU.out 11 _ rfl;have aB3:=RN.frozen RN.aB.gs (g*25+11);have nb:=X.ne RN.aB.gs;have Kn:=nb.symm;have X4:=X.g nU.out {x with bJ:=S2.av} (q:=11) (v:=I S2.av);have ux:=ag X4;clear X4;have My:=ag X;clear X RN);go_region
  all_goals
   go_wp2_with (go_at_call 98;refine(ig (af:=af) (F:=F) (m0:=m) (w0:=w) (m:=m) (L:=[(w1.heap.size+1,iY F g o ca o.cases.length cc),(w1.heap.size,eD o ca cc)]) (S:=S2.ay g {x with bJ:=S2.av}) ?_ g (az nU.out) o ca o.cases.length cc 12).mono ?_;exact ux.out.aI;rintro e wN ⟨rfl,X⟩;have RN:=X.bj;have uz:=ag X;clear X RN);go_ret;exact⟨rfl,m,uz.out.at_.eq aA⟩
theorem TK(R:bz af F w m S)(aG:Good S)(g:Nat)(x:bI)(hx:S.gs[g]?=some x)(o:cu)(ho:dH S g=o)(bO:eX o.ch)(dj:o.cases.length≤1000)(hk:o.ai=2∨o.ai=4)(hp:x.ae≠1∧x.ae≠2∧x.ae≠5∧x.ae≠6∧x.ae≠7∧x.ae≠8∧x.ae≠9∧x.ae≠10∧x.ae≠11∧x.ae≠14)(S':Wd)(d:Bool)(hm:gH S g=some (S',d)):Calls prog 61 #[bR F,I g] w (eL (.bool d) (To af F m w S')):=by
 obtain⟨pl,kM⟩:∃pl,x.ae=pl:=⟨_,rfl⟩;rw[kM]at hp;obtain⟨n1,n2,n5,n6,n7,n8,n9,n10,n11,n14⟩:=hp;have b1:(pl==1)=false:=by simpa using n1
 have b2:(pl==2)=false:=by simpa using n2
 have b5:(pl==5)=false:=by simpa using n5
 have b6:(pl==6)=false:=by simpa using n6
 have b7:(pl==7)=false:=by simpa using n7
 have b8:(pl==8)=false:=by simpa using n8
 have b9:(pl==9)=false:=by simpa using n9
 have b10:(pl==10)=false:=by simpa using n10
 have b11:(pl==11)=false:=by simpa using n11
 have b14:(pl==14)=false:=by simpa using n14
 clear n1 n2 n5 n6 n7 n8 n9 n10 n11 n14;have eM:=cA hx;have HR:=ag (At.refl R);rcases hk with hk|hk
 all_goals
  first
   |have jO:(o.ai !=2)=false:=by rw[hk];rfl
   |(have jO:(o.ai !=2)=true:=by rw[hk];rfl
     have Eu:(o.ai !=4)=false:=by rw[hk];rfl)
  obtain⟨HX,HO,HP,ie,HM⟩:=jW hx ho kM aG hm;clear R hx ho kM hk aG hm;unfold bR;go_enter func61,ntmps61;go_wp2_with (go_at_call 92;refine(dw HR.out g HX.out HO.out dj).mono ?_;rintro e w1 ⟨⟨cv,rfl,gE⟩,A1⟩;obtain⟨ca,cc,rfl⟩:=dm.shape gE;have R1:=A1.bj;have p2:=R1.g HX.out 2 _ rfl;rw[HP.out]at p2;have c3:=R1.eu;have cm:=R1.lt R1.aB.gs;have aU:=R1.lt R1.aB.al;have iv:=ag ((AB.qn A1).oP (eD o ca cc) (iY F g o ca o.cases.length cc));clear A1 R1 gE);go_wp2_with (go_at_call 105;refine(jP (af:=af) (F:=F) (m0:=m) (w0:=w) (m:=m) (L:=[(w1.heap.size+1,iY F g o ca o.cases.length cc),(w1.heap.size,eD o ca cc)]) (S:=S) ?_ ie.out HM.out).mono ?_;exact iv.out.aI;rintro e wN ⟨rfl,mN,X⟩;have RN:=X.bj;have uz:=ag X;clear X RN);go_ret;exact⟨rfl,ss uz.out⟩
theorem vm(R:bz af F w m S)(g:Nat)(x:bI)(hx:S.gs[g]?=some x)(o:cu)(ho:dH S g=o)(dj:o.cases.length≤1000)(hk:o.ai≠2∧o.ai≠4):Calls prog 61 #[bR F,I g] w (eL (.bool false) (To af F m w S)):=by
 have HR:=ag (At.refl R);have jO:(o.ai !=2)=true:=by simpa using hk.1
 have Eu:(o.ai !=4)=true:=by simpa using hk.2
 obtain⟨HX,HO⟩:=dA hx ho;clear R hx ho hk;unfold bR;go_enter func61,ntmps61;go_wp2_with (go_at_call 92;refine(dw HR.out g HX.out HO.out dj).mono ?_;rintro e w1 ⟨⟨cv,rfl,gE⟩,A1⟩;obtain⟨ca,cc,rfl⟩:=dm.shape gE;have iv:=ag (A1.alloc (eD o ca cc));clear A1 gE);go_ret;exact⟨rfl,m,iv.out.aI⟩
theorem dS{y:Option Wd}{S':Wd}{d:Bool}(h:yes y=some (S',d)):y=some S'∧d=true:=by
 cases y with
 |none=>simp[yes]at h
 |some z=>simp[yes]at h;exact⟨by rw[h.1],h.2⟩
theorem Jk(R:bz af F w m S)(aG:Good S)(g:Nat)(S':Wd)(d:Bool)(hm:jq S g=some (S',d)):Calls prog 61 #[.pointer (some ⟨F.al,0,none⟩),I g] w (eL (.bool d) (To af F m w S')):=by
 unfold jq at hm;simp only[bW,cI]at hm;obtain⟨o,ho,x,hx,hm⟩:=hm;obtain⟨ho,bO,dj⟩:=nB ho;by_cases hk:o.ai≠2∧o.ai≠4
 ·rw[aF hk]at hm
  cases hm;exact vm R g x hx o ho dj hk
 rw[aE hk]at hm;have hk:o.ai=2∨o.ai=4:=by omega
 by_cases h1:x.ae=1
 ·rw[aF h1]at hm;obtain⟨hn,rfl⟩:=dS hm;exact pr R aG g x hx o ho bO dj hk _ (.inl ⟨h1,hn⟩)
 rw[aE h1]at hm;by_cases h2:x.ae=2
 ·rw[aF h2]at hm;obtain⟨hn,rfl⟩:=dS hm;exact pr R aG g x hx o ho bO dj hk _ (.inr (.inl ⟨h2,hn⟩))
 rw[aE h2]at hm;by_cases h5:x.ae=5
 ·rw[aF h5]at hm;obtain⟨hn,rfl⟩:=dS hm;exact pr R aG g x hx o ho bO dj hk _ (.inr (.inr (.inl ⟨h5,hn⟩)))
 rw[aE h5]at hm;by_cases h6:x.ae=6
 ·rw[aF h6]at hm;simp only[cI]at hm;obtain⟨⟨S2,ok⟩,h2,hm⟩:=hm
  cases ok with
  |true=>
   cases hm;exact Qh R aG g x hx o ho bO dj hk h6 _ h2
  |false=>
   obtain⟨hn,rfl⟩:=dS hm;exact Qi R aG g x hx o ho bO dj hk h6 _ _ h2 hn
 rw[aE h6]at hm;by_cases h7:x.ae=7
 ·rw[aF h7]at hm;obtain⟨hn,rfl⟩:=dS hm;exact pr R aG g x hx o ho bO dj hk _ (.inr (.inr (.inr (.inl ⟨h7,hn⟩))))
 rw[aE h7]at hm;by_cases h8:x.ae=8
 ·rw[aF h8]at hm;obtain⟨hn,rfl⟩:=dS hm;exact pr R aG g x hx o ho bO dj hk _ (.inr (.inr (.inr (.inr (.inl ⟨h8,hn⟩)))))
 rw[aE h8]at hm;by_cases h9:x.ae=9
 ·rw[aF h9]at hm;obtain⟨hn,rfl⟩:=dS hm;exact pr R aG g x hx o ho bO dj hk _ (.inr (.inr (.inr (.inr (.inr (.inl ⟨h9,hn⟩))))))
 rw[aE h9]at hm;by_cases ph:x.ae=10
 ·rw[aF ph]at hm;obtain⟨hn,rfl⟩:=dS hm;exact pr R aG g x hx o ho bO dj hk _ (.inr (.inr (.inr (.inr (.inr (.inr (.inl ⟨ph,hn⟩)))))))
 rw[aE ph]at hm;by_cases rA:x.ae=11
 ·rw[aF rA]at hm;obtain⟨hn,rfl⟩:=dS hm;unfold rF at hn;simp only[bW,cI,hx,oZ,exists_eq_left']at hn;obtain⟨S2,h2,hn⟩:=hn;subst hn;exact Qj R aG g x hx o ho bO dj hk rA _ h2
 rw[aE rA]at hm;by_cases Dp:x.ae=14
 ·rw[aF Dp]at hm;obtain⟨hn,rfl⟩:=dS hm;exact pr R aG g x hx o ho bO dj hk _ (.inr (.inr (.inr (.inr (.inr (.inr (.inr ⟨Dp,hn⟩)))))))
 rw[aE Dp]at hm;exact TK R aG g x hx o ho bO dj hk ⟨h1,h2,h5,h6,h7,h8,h9,ph,rA,Dp⟩ _ _ hm
end
end Go.Proofs.YtadifmnmfnihdaaGreat
