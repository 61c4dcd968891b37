import Derived.Test.YtadifmnmfnihdaaGreatA05
set_option linter.all false
set_option maxRecDepth 100000
set_option maxHeartbeats 40000000
namespace Go.Proofs.YtadifmnmfnihdaaGreat
open Go.RowKit Mach Go.Proofs.Tryz
section
variable{af:Nat}{F:Fx}{w w0 w':World}{m m0:Mem}{S:Wd}
theorem nB{g:Nat}{o:cu}(h:mf S g=some o):dH S g=o∧(-1000000000≤o.ch∧o.ch≤1000000000)∧o.cases.length≤1000:=by
 unfold mf at h;split at h
 ·rename_i h1
  cases h;exact⟨rfl,by simpa[kJ]using h1.1,h1.2⟩
 ·cases h
theorem dw(A:At af F m0 w0 m w S)(g:Nat){x:bI}(hx:S.gs[g]?=some x){o:cu}(ho:dH S g=o)(hc:o.cases.length≤1000):Calls prog 92 #[.pointer (some ⟨F.al,0,none⟩),I g] w fun e w'=>(∃cv,e=.returned (.agg #[I o.ai,I o.ch,I o.n,I o.v,cv,B o.dG])∧dm w.heap.size w' cv o.cases)∧At af F m0 w0 m w' S:=by
 subst ho;exact Od A g hx hc
theorem IB(T:To af F m0 w0 S w){g:Nat}{S':Wd}(hm:dk S g=some S'):Calls prog 159 #[.pointer (some ⟨F.al,0,none⟩),I g] w (ee (To af F m0 w0 S')):=by
 obtain⟨m,A⟩:=T;exact(OP A hm).mono fun e w' ⟨h1,h2⟩=>⟨h1,m,h2⟩
section
variable(R:bz af F w m S)(g:Nat)(x:bI)(hx:S.gs[g]?=some x)(o:cu)(ho:dH S g=o)(bO:eX o.ch)(dj:o.cases.length≤1000)
include R g x hx o ho bO dj
theorem Fm(hp:x.ae=4)(S':Wd)(hm:Mach.lock S g (o.ch-1)=some S'):Calls prog 105 #[bR F,I g] w (oV fun w'=>At af F m w m w' S'):=by
 have eM:=cA hx;have c3:=R.eu;have HR:=ag (At.refl R);obtain⟨HX,HO,HM,HP⟩:=ia hx ho hm hp;have Ii:=qA;have HOC:Hid ((dH S g).cases.length≤1000):=by rw[ho];exact dj
 clear R hx ho hm hp;unfold bR;go_enter func105,ntmps105;go_wp2_with (first|(go_at_call 92;refine(dw HR g HX HO dj).mono ?_;rintro e w1 ⟨⟨cv,rfl,_⟩,A1⟩;have R1:=A1.bj;have p2:=R1.g HX 2 _ rfl;rw[HP.out]at p2;have ri:=ag A1;clear A1 R1)|(go_at_call 155;refine(SM ri.out HM HOC ⟨_,HX⟩).mono ?_;rintro e w2 ⟨rfl,A2⟩;have nx:=ag A2;clear A2));go_ret;exact⟨rfl,nx⟩
theorem y6(hp:x.ae=12):Calls prog 105 #[bR F,I g] w (oV fun w'=>At af F m w m w' ((free S (o.ch-1) g).ay g {x with ae:=13})):=by
 have eM:=cA hx;have c3:=R.eu;have HR:=ag (At.refl R);obtain⟨HX,HO,HP⟩:=ij hx ho hp;have Ii:=qA;clear R hx ho hp;unfold bR;go_enter func105,ntmps105;go_wp2_with (first|(go_at_call 92;refine(dw HR g HX HO dj).mono ?_;rintro e w1 ⟨⟨cv,rfl,_⟩,A1⟩;have R1:=A1.bj;have p2:=R1.g HX 2 _ rfl;rw[HP.out]at p2;have We:=R1.eu;have c7:=R1.pC;have ri:=ag A1;clear A1 R1)|(go_at_call 156;refine(C9 ri.out _ _).mono ?_;rintro e w2 ⟨⟨b,rfl⟩,A2⟩;have R2:=A2.bj;have q2:=R2.g HX 2 _ rfl;have fq2:=R2.frozen R2.aB.gs (g*25+2);have A3:=A2.g HX {x with ae:=13} (q:=2) (v:=I 13);have vC:=ag A3;clear A2 A3 R2));go_ret;exact⟨rfl,vC⟩
theorem Fo(hp:x.ae=13):Calls prog 105 #[bR F,I g] w (oV fun w'=>At af F m w m w' {S.ay g {x with ae:=14}with ax:=(Mach.tD S.ax g).1}):=by
 have eM:=cA hx;have c3:=R.eu;have HR:=ag (At.refl R);obtain⟨HX,HO,HP⟩:=ij hx ho hp;have Ii:=qA;clear R hx ho hp;unfold bR;go_enter func105,ntmps105;go_wp2_with (first|(go_at_call 92;refine(dw HR g HX HO dj).mono ?_;rintro e w1 ⟨⟨cv,rfl,_⟩,A1⟩;have R1:=A1.bj;have p2:=R1.g HX 2 _ rfl;rw[HP.out]at p2;have We:=R1.eu;have c4:=R1.nJ;have fq2:=R1.frozen R1.aB.gs (g*25+2);have Km:=R1.ne R1.aB.gs R1.aB.al;have Nu:=R1.ne R1.aB.al R1.aB.gs;have A2:=A1.g HX {x with ae:=14} (q:=2) (v:=I 14);have nx:=ag A2;clear A2;have ri:=ag A1;clear A1 R1)|(go_at_call 157;refine(Kl nx.out _).mono ?_;rintro e w2 ⟨⟨b,rfl⟩,A3⟩;have vC:=ag A3;clear A3));go_ret;exact⟨rfl,vC⟩
theorem AQ(hp:x.ae=16)(S':Wd)(hm:dk (free S (o.ch-1) g) g=some S'):Calls prog 105 #[bR F,I g] w (oV fun w'=>At af F m w m w' S'):=by
 have eM:=cA hx;have c3:=R.eu;have HR:=ag (At.refl R);obtain⟨HX,HO,HP,HM⟩:=ia hx ho hp hm;have Ii:=qA;clear R hx ho hp hm;unfold bR;go_enter func105,ntmps105;go_wp2_with (first|(go_at_call 92;refine(dw HR g HX HO dj).mono ?_;rintro e w1 ⟨⟨cv,rfl,_⟩,A1⟩;have R1:=A1.bj;have p2:=R1.g HX 2 _ rfl;rw[HP.out]at p2;have We:=R1.eu;have c7:=R1.pC;have ri:=ag A1;clear A1 R1)|(go_at_call 156;refine(C9 ri.out _ _).mono ?_;rintro e w2 ⟨⟨b,rfl⟩,A2⟩;have nx:=ag A2;clear A2)|(go_at_call 159;refine(OP nx.out HM).mono ?_;rintro e w3 ⟨rfl,A3⟩;have vC:=ag A3;clear A3));go_ret;exact⟨rfl,vC⟩
theorem Fp(hp:eO x.ae=false):Calls prog 105 #[bR F,I g] w (eL (.bool false) fun w'=>At af F m w m w' S):=by
 have eM:=cA hx;have c3:=R.eu;have HR:=ag (At.refl R);obtain⟨HX,HO,HP⟩:=ij hx ho hp;have Ii:=qA;obtain⟨p,Yy⟩:=dC (x.ae);rw[←Yy]at hp;have R8:(p==4)=false:=bn6
 have az7:(p==12)=false:=bn6
 have az8:(p==13)=false:=bn6
 have az9:(p==15)=false:=bn6
 have aA0:(p==16)=false:=bn6
 have aA1:(p==17)=false:=bn6
 have HPD:=ag Yy;clear R hx ho hp Yy;unfold bR;go_enter func105,ntmps105;go_wp2_with (go_at_call 92;refine(dw HR g HX HO dj).mono ?_;rintro e w1 ⟨⟨cv,rfl,_⟩,A1⟩;have R1:=A1.bj;have p2:=R1.g HX 2 _ rfl;rw[←HPD.out]at p2;have We:=R1.eu;have ri:=ag A1;clear A1 R1);go_ret;exact⟨rfl,ri⟩
theorem Da(hp:x.ae=15)(aG:Good S)(s:Nat)(hs:x.bY=s)(sd:gn)(RY:S.ah[s]?=some sd):Calls prog 105 #[bR F,I g] w (oV fun w'=>To af F m w (({S.cJ s {}with Eg:=(S.Eg.nh g x.bY).1}:Wd).ay g {x with bY:= -1,ae:=18}) w'):=by
 have eM:=cA hx;have c3:=R.eu;have HR:=ag (At.refl R);obtain⟨HX,HO,HP,ie,HS,qH⟩:=mr hx ho hp aG hs RY;have Ii:=qA;have mj:s<S.ah.length:=cA RY;have BS:g<S.Eg.aC.length:=bo7
 rw[hs];clear R hx ho hp aG hs RY;unfold bR;go_enter func105,ntmps105;go_wp2_with (go_at_call 92;refine(dw HR g HX HO dj).mono ?_;rintro e w1 ⟨⟨cv,rfl,_⟩,A1⟩;have R1:=A1.bj;have p2:=R1.g HX 2 _ rfl;rw[HP.out]at p2;have We:=R1.eu;have c9:=R1.ed;have g8:=R1.g HX 8 _ rfl;rw[HS.out]at g8;have ri:=ag A1;clear A1 R1);have R1:=ri.out.bj;have hc7:=BW R1 qH;have hf7:=R1.frozen R1.aB.ah;obtain⟨HC7,US⟩:=dA hc7 hf7;clear R1 hc7 hf7;go_still_tail 10,kX;change wpList _ _ _ _ _ w1.drew;have A2:=(ri.out.drew).Rw qH {};have nx:=ag A2;clear A2;refine cB rfl 105 (.tmp 62) (.tmp 61) rfl F.ah (s*7) #[B false,I 0,I 0,I 0,B false,I 0,B false] rfl rfl kX (fun j hj=>HC7 j hj) (fun j hj=>US _) bi9 ?_;obtain⟨w2,nt,A2⟩:∃w2,w2=_∧At af F m w m w2 _:=⟨_,rfl,nx⟩;change wpList _ _ _ _ _ (w1.drew.setCells F.ah (s*7) [B false,I 0,I 0,I 0,B false,I 0,B false]);rw[←nt];have R2:=A2.bj;have kt:(S.cJ s {}).gs[g]?=some x:=HX.out;have c3c:=R2.eu;have Fq:=R2.tf;have k8:=R2.g kt 8 _ rfl;rw[HS.out]at k8;have vC:=ag A2;clear R2 A2 nt nx HC7 US c9 g8 p2 We kt;simp only[Act.put];go_wp2_with fail
 have HCA:Hid (g<S.Eg.aC.length):=BS;go_region_with (go_at_call 158;refine(Fk (S:=S.cJ s {}) vC.out.aI ie.out.Eg s BS).mono ?_;rintro e w3 ⟨⟨b,rfl⟩,m3,A3⟩;have BX:=ag A3;clear A3)
 all_goals
  obtain⟨w4,xX⟩:=dC (w3);have R3:=BX.out.bj;have nM:({S.cJ s {}with Eg:=((S.cJ s {}).Eg.nh g s).1}:Wd).gs[g]?=some x:=HX.out;have k2:=R3.g nM 2 _ rfl;have k8':=R3.g nM 8 _ rfl;have fk2:=R3.frozen R3.aB.gs (g*25+2);have fk8:=R3.frozen R3.aB.gs (g*25+8);have A5:=BX.out.g nM {x with bY:= -1} (q:=8) (v:=I (-1));have A6:=A5.g (az nM) {x with bY:= -1,ae:=18} (q:=2) (v:=I 18);rw[aA]at A6;have Wf:=ag A6;clear R3 nM A5 A6 xX;go_wp2;go_ret;exact⟨rfl,_,Wf.out.aI⟩
theorem Db(hp:x.ae=17)(z:Int)(hz:x.wakes[0]?=some z)(V5:x.wakes.length≤1000000)(S':Wd)(hm:dk (({S with ax:=(Mach.ready S.ax z).1}:Wd).ay g {x with wakes:=x.wakes.drop 1}) g=some S'):Calls prog 105 #[bR F,I g] w (oV (To af F m w S')):=by
 have eM:=cA hx;have c3:=R.eu;have HR:=ag (At.refl R);obtain⟨HX,HO,HP,HM,HZ,HWL⟩:=mr hx ho hp hm hz V5;have Ii:=qA;clear R hx ho hp hm hz V5;unfold bR;go_enter func105,ntmps105;go_wp2_with (go_at_call 92;refine(dw HR g HX HO dj).mono ?_;rintro e w1 ⟨⟨cv,rfl,_⟩,A1⟩;have R1:=A1.bj;have p2:=R1.g HX 2 _ rfl;rw[HP.out]at p2;have We:=R1.eu;have ri:=ag A1;clear A1 R1);have R1:=ri.out.bj;have c4:=R1.nJ;obtain⟨wb,ZC⟩:=R1.has (r:=.wakes g) (by simp only[aj,HX.out];intro h;have:=HZ.out;rw[List.map_eq_nil_iff.1 h]at this;simp at this);have g23:=R1.g HX 23 _ rfl;rw[Mem.de ZC]at g23;obtain⟨n,hn⟩:∃n,n+1=x.wakes.length:=⟨x.wakes.length-1,by have:=cA HZ;omega⟩;rw[←hn]at g23;have yU:=R1.NH (r:=.wakes g) (p:=(3,1)) rfl dX ZC;simp only[aj,HX.out,ko,Nat.mul_one,←hn]at yU;have cz:w1.cell? ⟨wb,0,none⟩=some (I z):=R1.cell ZC (by simp only[aj,HX.out,na,HZ.out];rfl);have HN:=ag hn;have UT:=ag ZC;have Fb:0<n+1:=oX
 clear R1 ZC hn;go_wp2_with fail
 go_region_with (go_at_call 160;refine(OO ri.out.aI z).mono ?_;rintro e w3 ⟨⟨b,rfl⟩,A3⟩;have BX:=ag A3;clear A3)
 all_goals
  have R3:=BX.out.bj;have nM:({S with ax:=(Mach.ready S.ax z).1}:Wd).gs[g]?=some x:=HX.out;have k23:=R3.g nM 23 _ rfl;rw[Mem.de UT.out,←HN.out]at k23;have ap0:=R3.frozen R3.aB.gs (g*25+23);have fa:∀j u,((x.wakes.drop 1).map I)[j]?=some u→w3.cell? ⟨wb,1+j,none⟩=some u:=fun j u hu=>R3.cell UT (by simp only[aj,nM];rw[na,List.getElem?_drop]at hu;rw[na];exact hu)
  have BJ:=ag fa;have oh:=ag nM;obtain⟨i0,hi,fV,gF,gG⟩:=info_parts lC;have Lw:(x.wakes.drop 1).length=n:=by rw[List.length_drop,←HN.out];rfl
  have HDL:=ag Lw;have gm:((x.wakes.drop 1).map I).length=n*1:=by rw[ko,Lw];omega
  have tP:=ag gm;have hn6:n<1000001:=by have:=HWL.out;have:=HN.out;omega
  have Wg:=R3.lt R3.aB.gs;obtain⟨cap,UU⟩:=dC (m.cap (.wakes g));rw[←UU]at k23 yU;clear R3 nM fa Lw gm UU;by_cases vN:n=0
  ·subst vN;have hd0:x.wakes.drop 1=[]:=xn HDL;have A5:=BX.out.EB oh;rw[←hd0]at A5;have vV:=ag A5;clear hd0 A5;have HM2:Hid (dk (({S with ax:=(Mach.ready S.ax z).1}:Wd).ay g {x with wakes:=x.wakes.drop 1}) g=some S'):=HM.out;by_cases oF:cap=1
   ·subst oF;exact aX9
   ·have xz:1<cap:=oX;exact aX9
  ·have ap1:0<n:=by omega
   have xz:1<cap:=oX;go_wp2_with (first|(at_builtin;refine uM rfl (.const (.slice none 0 0)) (.tmp 109) 28 rfl underlying28 hi fV gF gG rfl Nat.one_pos vJ rfl wb 1 n (cap-1) rfl ((x.wakes.drop 1).map I) tP BJ (ints_oneCell _ _) ap1 hn6 ?_;intro aA2 w5 tn se;have aA3:=yr se k23 sX;have ax0:=uI se ap0 Wg sX;have A5:=BX.out.EC (j:=g) (x:=x) (l:=x.wakes.drop 1) oh ⟨se.os,se.tape,se.output,se.size,fun k h _=>se.block k h sX⟩ (by rw[HDL.out];exact ql tn BX.out.bj.eS) (.inr cG);rw[HDL.out]at A5;have vV:=ag A5;clear tn se A5)|(go_at_call 159;refine(IB (af:=af) (F:=F) (w0:=w) (m0:=m) ?_ HM).mono ?_;exact⟨_,vV.out.aI⟩;rintro e w5 ⟨rfl,A6⟩;have Wf:=ag A6;clear A6));go_ret;exact⟨rfl,Wf⟩
end
end
end Go.Proofs.YtadifmnmfnihdaaGreat
