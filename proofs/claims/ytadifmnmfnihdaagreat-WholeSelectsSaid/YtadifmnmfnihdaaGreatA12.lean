import Derived.Test.YtadifmnmfnihdaaGreatA11
set_option linter.all false
set_option maxRecDepth 100000
set_option maxHeartbeats 40000000
namespace Go.Proofs.YtadifmnmfnihdaaGreat
open Go.RowKit Mach Go.Proofs.Tryz
section
variable{af:Nat}{F:Fx}{w w0 w':World}{m m0:Mem}{S:Wd}
theorem nB{g:Nat}{o:cu}(h:mf S g=some o):dH S g=o∧(-1000000000≤o.ch∧o.ch≤1000000000)∧o.cases.length≤1000:=by
 unfold mf at h;split at h
 ·rename_i h1
  cases h;exact⟨rfl,by simpa[kJ]using h1.1,h1.2⟩
 ·cases h
theorem dw(A:At af F m0 w0 m w S)(g:Nat){x:bI}(hx:S.gs[g]?=some x){o:cu}(ho:dH S g=o)(hc:o.cases.length≤1000):Calls prog 92 #[.pointer (some ⟨F.al,0,none⟩),I g] w fun e w'=>(∃cv,e=.returned (.agg #[I o.ai,I o.ch,I o.n,I o.v,cv,B o.dG])∧dm w.heap.size w' cv o.cases)∧At af F m0 w0 m w' S:=by
 subst ho;exact Od A g hx hc
theorem IB(T:To af F m0 w0 S w){g:Nat}{S':Wd}(hm:dk S g=some S'):Calls prog 159 #[.pointer (some ⟨F.al,0,none⟩),I g] w (ee (To af F m0 w0 S')):=by
 obtain⟨m,A⟩:=T;exact(OP A hm).mono fun e w' ⟨h1,h2⟩=>⟨h1,m,h2⟩
theorem Fm(R:bz af F w m S)(g:Nat)(x:bI)(hx:S.gs[g]?=some x)(o:cu)(ho:dH S g=o)(bO:eX o.ch)(dj:o.cases.length≤1000)(hp:x.ae=4)(S':Wd)(hm:Mach.lock S g (o.ch-1)=some S'):Calls prog 105 #[bR F,I g] w (oV fun w'=>At af F m w m w' S'):=by
 have eM:=cA hx;have c3:=R.eu;have HR:=ag (At.refl R);obtain⟨HX,HO,HM,HP⟩:=ia hx ho hm hp;have Ii:=qA;have HOC:Hid ((dH S g).cases.length≤1000):=by rw[ho];exact dj
 clear R hx ho hm hp;unfold bR;go_enter func105,ntmps105;go_wp2_with (first|(go_at_call 92;refine(dw HR.out g HX.out HO.out dj).mono ?_;rintro e w1 ⟨⟨cv,rfl,_⟩,A1⟩;have R1:=A1.bj;have p2:=R1.g HX.out 2 _ rfl;rw[HP.out]at p2;have ri:=ag A1;clear A1 R1)|(go_at_call 155;refine(SM ri.out HM.out HOC.out ⟨_,HX.out⟩).mono ?_;rintro e w2 ⟨rfl,A2⟩;have nx:=ag A2;clear A2));go_ret;exact⟨rfl,nx.out⟩
theorem y6(R:bz af F w m S)(g:Nat)(x:bI)(hx:S.gs[g]?=some x)(o:cu)(ho:dH S g=o)(bO:eX o.ch)(dj:o.cases.length≤1000)(hp:x.ae=12):Calls prog 105 #[bR F,I g] w (oV fun w'=>At af F m w m w' ((free S (o.ch-1) g).ay g {x with ae:=13})):=by
 have eM:=cA hx;have c3:=R.eu;have HR:=ag (At.refl R);obtain⟨HX,HO,HP⟩:=ij hx ho hp;have Ii:=qA;clear R hx ho hp;unfold bR;go_enter func105,ntmps105;go_wp2_with (first|(go_at_call 92;refine(dw HR.out g HX.out HO.out dj).mono ?_;rintro e w1 ⟨⟨cv,rfl,_⟩,A1⟩;have R1:=A1.bj;have p2:=R1.g HX.out 2 _ rfl;rw[HP.out]at p2;have We:=R1.eu;have c7:=R1.pC;have ri:=ag A1;clear A1 R1)|(go_at_call 156;refine(C9 ri.out _ _).mono ?_;rintro e w2 ⟨⟨b,rfl⟩,A2⟩;have R2:=A2.bj;have q2:=R2.g HX.out 2 _ rfl;have fq2:=R2.frozen R2.aB.gs (g*25+2);have A3:=A2.g HX.out {x with ae:=13} (q:=2) (v:=I 13);have vC:=ag A3;clear A2 A3 R2));go_ret;exact⟨rfl,vC.out⟩
theorem Fo(R:bz af F w m S)(g:Nat)(x:bI)(hx:S.gs[g]?=some x)(o:cu)(ho:dH S g=o)(bO:eX o.ch)(dj:o.cases.length≤1000)(hp:x.ae=13):Calls prog 105 #[bR F,I g] w (oV fun w'=>At af F m w m w' {S.ay g {x with ae:=14}with ax:=(Mach.tD S.ax g).1}):=by
 have eM:=cA hx;have c3:=R.eu;have HR:=ag (At.refl R);obtain⟨HX,HO,HP⟩:=ij hx ho hp;have Ii:=qA;clear R hx ho hp;unfold bR;go_enter func105,ntmps105;go_wp2_with (first|(go_at_call 92;refine(dw HR.out g HX.out HO.out dj).mono ?_;rintro e w1 ⟨⟨cv,rfl,_⟩,A1⟩;have R1:=A1.bj;have p2:=R1.g HX.out 2 _ rfl;rw[HP.out]at p2;have We:=R1.eu;have c4:=R1.nJ;have fq2:=R1.frozen R1.aB.gs (g*25+2);have Km:=R1.ne R1.aB.gs R1.aB.al;have Nu:=R1.ne R1.aB.al R1.aB.gs;have A2:=A1.g HX.out {x with ae:=14} (q:=2) (v:=I 14);have nx:=ag A2;clear A2;have ri:=ag A1;clear A1 R1)|(go_at_call 157;refine(Kl nx.out _).mono ?_;rintro e w2 ⟨⟨b,rfl⟩,A3⟩;have vC:=ag A3;clear A3));go_ret;exact⟨rfl,vC.out⟩
theorem AQ(R:bz af F w m S)(g:Nat)(x:bI)(hx:S.gs[g]?=some x)(o:cu)(ho:dH S g=o)(bO:eX o.ch)(dj:o.cases.length≤1000)(hp:x.ae=16)(S':Wd)(hm:dk (free S (o.ch-1) g) g=some S'):Calls prog 105 #[bR F,I g] w (oV fun w'=>At af F m w m w' S'):=by
 have eM:=cA hx;have c3:=R.eu;have HR:=ag (At.refl R);obtain⟨HX,HO,HP,HM⟩:=ia hx ho hp hm;have Ii:=qA;clear R hx ho hp hm;unfold bR;go_enter func105,ntmps105;go_wp2_with (first|(go_at_call 92;refine(dw HR.out g HX.out HO.out dj).mono ?_;rintro e w1 ⟨⟨cv,rfl,_⟩,A1⟩;have R1:=A1.bj;have p2:=R1.g HX.out 2 _ rfl;rw[HP.out]at p2;have We:=R1.eu;have c7:=R1.pC;have ri:=ag A1;clear A1 R1)|(go_at_call 156;refine(C9 ri.out _ _).mono ?_;rintro e w2 ⟨⟨b,rfl⟩,A2⟩;have nx:=ag A2;clear A2)|(go_at_call 159;refine(OP nx.out HM.out).mono ?_;rintro e w3 ⟨rfl,A3⟩;have vC:=ag A3;clear A3));go_ret;exact⟨rfl,vC.out⟩
theorem Fp(R:bz af F w m S)(g:Nat)(x:bI)(hx:S.gs[g]?=some x)(o:cu)(ho:dH S g=o)(bO:eX o.ch)(dj:o.cases.length≤1000)(hp:eO x.ae=false):Calls prog 105 #[bR F,I g] w (eL (.bool false) fun w'=>At af F m w m w' S):=by
 have eM:=cA hx;have c3:=R.eu;have HR:=ag (At.refl R);obtain⟨HX,HO,HP⟩:=ij hx ho hp;have Ii:=qA;obtain⟨p,Yy⟩:=dC (x.ae);rw[←Yy]at hp;have R8:(p==4)=false:=by simp[eO]at hp;simp;omega
 have az7:(p==12)=false:=by simp[eO]at hp;simp;omega
 have az8:(p==13)=false:=by simp[eO]at hp;simp;omega
 have az9:(p==15)=false:=by simp[eO]at hp;simp;omega
 have aA0:(p==16)=false:=by simp[eO]at hp;simp;omega
 have aA1:(p==17)=false:=by simp[eO]at hp;simp;omega
 have HPD:=ag Yy;clear R hx ho hp Yy;unfold bR;go_enter func105,ntmps105;go_wp2_with (go_at_call 92;refine(dw HR.out g HX.out HO.out dj).mono ?_;rintro e w1 ⟨⟨cv,rfl,_⟩,A1⟩;have R1:=A1.bj;have p2:=R1.g HX.out 2 _ rfl;rw[←HPD.out]at p2;have We:=R1.eu;have ri:=ag A1;clear A1 R1);go_ret;exact⟨rfl,ri.out⟩
theorem Da(R:bz af F w m S)(g:Nat)(x:bI)(hx:S.gs[g]?=some x)(o:cu)(ho:dH S g=o)(bO:eX o.ch)(dj:o.cases.length≤1000)(hp:x.ae=15)(aG:Good S)(s:Nat)(hs:x.bY=s)(sd:gn)(eo:S.ah[s]?=some sd):Calls prog 105 #[bR F,I g] w (oV fun w'=>To af F m w (({S.cJ s {}with ar:=(S.ar.nh g x.bY).1}:Wd).ay g {x with bY:= -1,ae:=18}) w'):=by
 have eM:=cA hx;have c3:=R.eu;have HR:=ag (At.refl R);obtain⟨HX,HO,HP,ie,HS,qH⟩:=mr hx ho hp aG hs eo;have Ii:=qA;have mj:s<S.ah.length:=cA eo;have BS:g<S.ar.aC.length:=by rw[aG.aC];exact eM
 rw[hs];clear R hx ho hp aG hs eo;unfold bR;go_enter func105,ntmps105;go_wp2_with (go_at_call 92;refine(dw HR.out g HX.out HO.out dj).mono ?_;rintro e w1 ⟨⟨cv,rfl,_⟩,A1⟩;have R1:=A1.bj;have p2:=R1.g HX.out 2 _ rfl;rw[HP.out]at p2;have We:=R1.eu;have c9:=R1.ed;have g8:=R1.g HX.out 8 _ rfl;rw[HS.out]at g8;have ri:=ag A1;clear A1 R1);have R1:=ri.out.bj;have hc7:=BW R1 qH.out;have hf7:=R1.frozen R1.aB.ah;obtain⟨HC7,US⟩:=dA hc7 hf7;clear R1 hc7 hf7;go_still_tail 10,(by kernel_rfl);change wpList _ _ _ _ _ w1.drew;have A2:=(ri.out.drew).Rw qH.out {};have nx:=ag A2;clear A2;refine cB rfl 105 (.tmp 62) (.tmp 61) rfl F.ah (s*7) #[B false,I 0,I 0,I 0,B false,I 0,B false] rfl rfl (by kernel_rfl) (fun j hj=>HC7.out j hj) (fun j hj=>US.out _) (by simp[Value.oneCell']) ?_;obtain⟨w2,nt,A2⟩:∃w2,w2=_∧At af F m w m w2 _:=⟨_,rfl,nx.out⟩;change wpList _ _ _ _ _ (w1.drew.setCells F.ah (s*7) [B false,I 0,I 0,I 0,B false,I 0,B false]);rw[←nt];have R2:=A2.bj;have kt:(S.cJ s {}).gs[g]?=some x:=HX.out;have c3c:=R2.eu;have Fq:=R2.tf;have k8:=R2.g kt 8 _ rfl;rw[HS.out]at k8;have vC:=ag A2;clear R2 A2 nt nx HC7 US c9 g8 p2 We kt;simp only[Act.put];go_wp2_with fail
 have HCA:Hid (g<S.ar.aC.length):=BS;go_region_with (go_at_call 158;refine(Fk (af:=af) (F:=F) (w0:=w) (m0:=m) (m:=m) (S:=S.cJ s {}) ?_ ie.out.ar s BS).mono ?_;exact vC.out.aI;rintro e w3 ⟨⟨b,rfl⟩,m3,A3⟩;have BX:=ag A3;clear A3)
 all_goals
  obtain⟨w4,xX⟩:=dC (w3);have R3:=BX.out.bj;have nM:({S.cJ s {}with ar:=((S.cJ s {}).ar.nh g s).1}:Wd).gs[g]?=some x:=HX.out;have k2:=R3.g nM 2 _ rfl;have k8':=R3.g nM 8 _ rfl;have fk2:=R3.frozen R3.aB.gs (g*25+2);have fk8:=R3.frozen R3.aB.gs (g*25+8);have A5:=BX.out.g nM {x with bY:= -1} (q:=8) (v:=I (-1));have A6:=A5.g (az nM) {x with bY:= -1,ae:=18} (q:=2) (v:=I 18);rw[aA]at A6;have Wf:=ag A6;clear R3 nM A5 A6 xX;go_wp2;go_ret;exact⟨rfl,_,Wf.out.aI⟩
theorem Db(R:bz af F w m S)(g:Nat)(x:bI)(hx:S.gs[g]?=some x)(o:cu)(ho:dH S g=o)(bO:eX o.ch)(dj:o.cases.length≤1000)(hp:x.ae=17)(z:Int)(hz:x.wakes[0]?=some z)(V5:x.wakes.length≤1000000)(S':Wd)(hm:dk (({S with ax:=(Mach.ready S.ax z).1}:Wd).ay g {x with wakes:=x.wakes.drop 1}) g=some S'):Calls prog 105 #[bR F,I g] w (oV (To af F m w S')):=by
 have eM:=cA hx;have c3:=R.eu;have HR:=ag (At.refl R);obtain⟨HX,HO,HP,HM,HZ,HWL⟩:=mr hx ho hp hm hz V5;have Ii:=qA;clear R hx ho hp hm hz V5;unfold bR;go_enter func105,ntmps105;go_wp2_with (go_at_call 92;refine(dw HR.out g HX.out HO.out dj).mono ?_;rintro e w1 ⟨⟨cv,rfl,_⟩,A1⟩;have R1:=A1.bj;have p2:=R1.g HX.out 2 _ rfl;rw[HP.out]at p2;have We:=R1.eu;have ri:=ag A1;clear A1 R1);have R1:=ri.out.bj;have c4:=R1.nJ;obtain⟨wb,ZC⟩:=R1.has (r:=.wakes g) (by simp only[aj,HX.out];intro h;have:=HZ.out;rw[List.map_eq_nil_iff.1 h]at this;simp at this);have g23:=R1.g HX.out 23 _ rfl;rw[Mem.de ZC]at g23;obtain⟨n,hn⟩:∃n,n+1=x.wakes.length:=⟨x.wakes.length-1,by have:=cA HZ.out;omega⟩;rw[←hn]at g23;have yU:=R1.NH (r:=.wakes g) (p:=(3,1)) rfl (by decide) ZC;simp only[aj,HX.out,ko,Nat.mul_one,←hn]at yU;have cz:w1.cell? ⟨wb,0,none⟩=some (I z):=R1.cell ZC (by simp only[aj,HX.out,na,HZ.out];rfl);have HN:=ag hn;have UT:=ag ZC;have Fb:0<n+1:=by omega
 clear R1 ZC hn;go_wp2_with fail
 go_region_with (go_at_call 160;refine(OO (af:=af) (F:=F) (w0:=w) (m0:=m) (m:=m) (S:=S) ?_ z).mono ?_;exact ri.out.aI;rintro e w3 ⟨⟨b,rfl⟩,A3⟩;have BX:=ag A3;clear A3)
 all_goals
  have R3:=BX.out.bj;have nM:({S with ax:=(Mach.ready S.ax z).1}:Wd).gs[g]?=some x:=HX.out;have k23:=R3.g nM 23 _ rfl;rw[Mem.de UT.out,←HN.out]at k23;have ap0:=R3.frozen R3.aB.gs (g*25+23);have fa:∀j u,((x.wakes.drop 1).map I)[j]?=some u→w3.cell? ⟨wb,1+j,none⟩=some u:=fun j u hu=>R3.cell UT.out (by simp only[aj,nM];rw[na,List.getElem?_drop]at hu;rw[na];exact hu)
  have BJ:=ag fa;have oh:=ag nM;obtain⟨i0,hi,fV,gF,gG⟩:=info_parts lC;have Lw:(x.wakes.drop 1).length=n:=by rw[List.length_drop,←HN.out];rfl
  have HDL:=ag Lw;have gm:((x.wakes.drop 1).map I).length=n*1:=by rw[ko,Lw];omega
  have tP:=ag gm;have hn6:n<1000001:=by have:=HWL.out;have:=HN.out;omega
  have Wg:=R3.lt R3.aB.gs;obtain⟨cap,UU⟩:=dC (m.cap (.wakes g));rw[←UU]at k23 yU;clear R3 nM fa Lw gm UU;by_cases vN:n=0
  ·subst vN;have hd0:x.wakes.drop 1=[]:=xn HDL.out;have A5:=BX.out.EB oh.out;rw[←hd0]at A5;have vV:=ag A5;clear hd0 A5;have HM2:Hid (dk (({S with ax:=(Mach.ready S.ax z).1}:Wd).ay g {x with wakes:=x.wakes.drop 1}) g=some S'):=HM.out;by_cases oF:cap=1
   ·subst oF;go_wp2_with (first|(at_builtin;refine gO rfl (.const (.slice none 0 0)) (.tmp 109) 28 rfl underlying28 hi rfl _ _ rfl ?_)|(go_at_call 159;refine(IB (af:=af) (F:=F) (w0:=w) (m0:=m) ?_ HM2.out).mono ?_;exact⟨_,vV.out.aI⟩;rintro e w5 ⟨rfl,A6⟩;have Wf:=ag A6;clear A6));go_ret;exact⟨rfl,Wf.out⟩
   ·have xz:1<cap:=(by omega);go_wp2_with (first|(at_builtin;refine gO rfl (.const (.slice none 0 0)) (.tmp 109) 28 rfl underlying28 hi rfl _ _ rfl ?_)|(go_at_call 159;refine(IB (af:=af) (F:=F) (w0:=w) (m0:=m) ?_ HM2.out).mono ?_;exact⟨_,vV.out.aI⟩;rintro e w5 ⟨rfl,A6⟩;have Wf:=ag A6;clear A6));go_ret;exact⟨rfl,Wf.out⟩
  ·have ap1:0<n:=by omega
   have xz:1<cap:=(by omega);go_wp2_with (first|(at_builtin;refine uM rfl (.const (.slice none 0 0)) (.tmp 109) 28 rfl underlying28 hi fV gF gG rfl Nat.one_pos vJ rfl wb 1 n (cap-1) rfl ((x.wakes.drop 1).map I) tP.out BJ.out (ints_oneCell _ _) ap1 hn6 ?_;intro aA2 w5 tn se;have aA3:=yr se k23 (by simp);have ax0:=uI se ap0 Wg (by simp);have A5:=BX.out.EC (j:=g) (x:=x) (l:=x.wakes.drop 1) oh.out ⟨se.os,se.tape,se.output,se.size,fun k h _=>se.block k h (by simp)⟩ (by rw[HDL.out];exact ql tn BX.out.bj.eS) (.inr cG);rw[HDL.out]at A5;have vV:=ag A5;clear tn se A5)|(go_at_call 159;refine(IB (af:=af) (F:=F) (w0:=w) (m0:=m) ?_ HM.out).mono ?_;exact⟨_,vV.out.aI⟩;rintro e w5 ⟨rfl,A6⟩;have Wf:=ag A6;clear A6));go_ret;exact⟨rfl,Wf.out⟩
theorem OR{S':Wd}{f:Nat}{args:Array Value}{e0:Ending}(h:Calls prog f args w fun e w'=>e=e0∧At af F m w m w' S'):Calls prog f args w fun e w'=>e=e0∧To af F m w S' w':=
 h.mono fun e w' ⟨h1,h2⟩=>⟨h1,m,h2⟩
theorem xd(R:bz af F w m S)(aG:Good S)(g:Nat)(S':Wd)(d:Bool)(hm:gH S g=some (S',d)):Calls prog 105 #[.pointer (some ⟨F.al,0,none⟩),I g] w (eL (.bool d) (To af F m w S')):=by
 unfold gH at hm;simp only[bW,cI]at hm;obtain⟨x,hx,o,ho,hm⟩:=hm;obtain⟨ho,bO,dj⟩:=nB ho;by_cases h4:x.ae=4
 ·rw[aF h4]at hm
  cases hl:Mach.lock S g (o.ch-1) with
  |none=>rw[hl]at hm;cases hm
  |some S2=>
   rw[hl]at hm;cases hm;exact OR (Fm R g x hx o ho bO dj h4 _ hl)
 rw[aE h4]at hm;by_cases uQ:x.ae=12
 ·rw[aF uQ]at hm
  cases hm;exact OR (y6 R g x hx o ho bO dj uQ)
 rw[aE uQ]at hm;by_cases uu:x.ae=13
 ·rw[aF uu]at hm
  cases hm;exact OR (Fo R g x hx o ho bO dj uu)
 rw[aE uu]at hm;by_cases UW:x.ae=15
 ·rw[aF UW]at hm;simp only[cI]at hm;obtain⟨s,hs,sd,eo,hm⟩:=hm
  cases hm;exact Da R g x hx o ho bO dj UW aG s (du hs) sd eo
 rw[aE UW]at hm;by_cases SO:x.ae=16
 ·rw[aF SO]at hm
  cases hl:dk (free S (o.ch-1) g) g with
  |none=>rw[hl]at hm;cases hm
  |some S2=>
   rw[hl]at hm;cases hm;exact OR (AQ R g x hx o ho bO dj SO _ hl)
 rw[aE SO]at hm;by_cases XJ:x.ae=17
 ·rw[aF XJ]at hm;simp only[cI]at hm;obtain⟨z,hz,hm⟩:=hm
  cases hl:dk (({S with ax:=(Mach.ready S.ax z).1}:Wd).ay g {x with wakes:=x.wakes.drop 1}) g with
  |none=>rw[hl]at hm;cases hm
  |some S2=>
   rw[hl]at hm;cases hm;exact Db R g x hx o ho bO dj XJ z hz (aG.wakes g x hx) _ hl
 rw[aE XJ]at hm
 cases hm;exact OR (Fp R g x hx o ho bO dj (by simp[eO,h4,uQ,uu,UW,SO,XJ]))
def aA4(s:gn):Value:=.agg #[B s.cK,I s.g,I s.ch,I s.case,B s.cF,I s.v,B s.done]
theorem BY(R:bz af F w m S)(aG:Good S)(g:Nat)(sd:gn)(S':Wd)(hm:rE S g sd=some S'):Calls prog 102 #[bR F,I g,.agg #[B sd.cK,I sd.g,I sd.ch,I sd.case,B sd.cF,I sd.v,B sd.done]] w (ee (To af F m w S')):=by
 unfold rE at hm;simp only[bW,cI]at hm;obtain⟨x,hx,hm⟩:=hm;have eM:=cA hx;have BS:g<S.ar.aC.length:=by rw[aG.aC];exact eM
 have c3:=R.eu;have Fq:=R.tf;obtain⟨aU,cm,aY,aZ⟩:=R.pB;have A0:=(At.refl R).alloc (.cells #[B sd.cK,I sd.g,I sd.ch,I sd.case,B sd.cF,I sd.v,B sd.done] 105);have oH:(w.alloc (.cells #[B sd.cK,I sd.g,I sd.ch,I sd.case,B sd.cF,I sd.v,B sd.done] 105)).heap[w.heap.size]?=_:=dP w _;have hnf:=R.iT (Nat.le_refl w.heap.size);obtain⟨OS,BK,HNF,HX⟩:=ia A0 oH hnf hx;have HT:=ag (yW A0.bj aG.ar g BS);clear R hx A0 oH hnf aG;by_cases eK:(S.ar.take g).2.2=true
 ·rw[aF eK]at hm;simp only[cI]at hm;obtain⟨j,hj,Nf,Wh,hm⟩:=hm;have hj:=du hj;rw[eK,hj]at HT
  cases hm;have vy:j<S.ah.length:=cA Wh;have qH:=ag Wh;clear eK hj Wh;unfold bR;go_enter func102,ntmps102;go_wp2_with (go_at_call 154;refine HT.out.mono ?_;rintro e w2 ⟨rfl,m2,B2⟩;have R2:=B2.bj;have c9:=R2.ed;have We:=R2.eu;have kt:({S with ar:=(S.ar.take g).1}:Wd).gs[g]?=some x:=HX.out;have g8:=R2.g kt 8 _ rfl;have fg8:=R2.frozen R2.aB.gs (g*25+8);have g2:=R2.g kt 2 _ rfl;have fg2:=R2.frozen R2.aB.gs (g*25+2);have vz:=At.stays OS.out.bj B2 BK.out HNF.out;have mq:=ag vz.1;have nb:=R2.ne R2.aB.gs R2.aB.ah;have Kn:=R2.ne R2.aB.ah R2.aB.gs;have nw:=R2.ne R2.aB.gs R2.aB.al;have nw':=R2.ne R2.aB.al R2.aB.gs;have nl:F.gs≠w.heap.size:=fun h=>vz.2 .gs (by rw[←h];exact R2.aB.gs);have A2:=OS.out.cont B2;have A3:=A2.g kt {x with bY:=j} (q:=8) (v:=I j);have vC:=ag A3;clear A2 A3 R2 kt vz B2)
  obtain⟨w3,xY,A3⟩:∃w3,w3=_∧At af F m w m2 w3 _:=⟨_,rfl,vC.out⟩;rw[←xY];have Hl:w3.heap[w.heap.size]?=some (.cells #[B sd.cK,I sd.g,I sd.ch,I sd.case,B sd.cF,I sd.v,B sd.done] 105 (0,0)):=by rw[xY,fQ _ _ _ _ (dE nl)];exact mq.out
  obtain⟨q0,q1,q2,q3,q4,q5,q6⟩:=ao9 Hl;have R3:=A3.bj;have OT:(({S with ar:=(S.ar.take g).1}:Wd).ay g {x with bY:=j}).ah[j]?=some Nf:=qH.out;have d9:=R3.ed;rw[show(({S with ar:=(S.ar.take g).1}:Wd).ay g {x with bY:=j}).ah.length=S.ah.length from rfl]at d9;have HC7:=ag (BW R3 OT);have US:=ag (R3.frozen R3.aB.ah);have A4:=(A3.drew).Rw OT sd;have BX:=ag A4;clear R3 OT A4 A3 xY Hl vC c9 g8 fg8 g2 fg2;go_still_tail 7,(by kernel_rfl);change wpList _ _ _ _ _ w3.drew;refine cB rfl 105 (.tmp 43) (.tmp 42) rfl F.ah (j*7) #[B sd.cK,I sd.g,I sd.ch,I sd.case,B sd.cF,I sd.v,B sd.done] rfl rfl (by kernel_rfl) (fun q hq=>HC7.out q hq) (fun q hq=>US.out _) (by simp[Value.oneCell']) ?_;obtain⟨w4,xX,A4⟩:∃w4,w4=_∧At af F m w m2 w4 _:=⟨_,rfl,BX.out⟩;change wpList _ _ _ _ _ (w3.drew.setCells F.ah (j*7) [B sd.cK,I sd.g,I sd.ch,I sd.case,B sd.cF,I sd.v,B sd.done]);rw[←xX];have R4:=A4.bj;have vB:((({S with ar:=(S.ar.take g).1}:Wd).ay g {x with bY:=j}).cJ j sd).gs[g]?=some {x with bY:=j}:=az (S:={S with ar:=(S.ar.take g).1}) HX.out;obtain⟨k2,fk2⟩:=R4.ef vB 2 _ rfl;have A5:=A4.g vB {x with bY:=j,ae:=11} (q:=2) (v:=I 11);have vV:=ag A5;clear R4 vB A5 A4 xX BX;simp only[Act.put];go_wp2;go_end0;exact⟨rfl,_,vV.out.eq (by simp[Wd.ay,Wd.cJ,my])⟩
 ·rw[aE eK]at hm;have CP:(S.ar.take g).2.2=false:=by simpa using eK
  rw[CP]at HT
  cases hm;clear eK CP;unfold bR;go_enter func102,ntmps102;go_wp2_with (go_at_call 154;refine HT.out.mono ?_;rintro e w2 ⟨rfl,m2,B2⟩;have R2:=B2.bj;have kt:({S with ar:=(S.ar.take g).1}:Wd).gs[g]?=some x:=HX.out;have g15:=R2.g kt 15 _ rfl;have ZB:=R2.frozen R2.aB.gs (g*25+15);have g2:=R2.g kt 2 _ rfl;have fg2:=R2.frozen R2.aB.gs (g*25+2);have A2:=OS.out.cont B2;have A3:=A2.g kt {x with res:={x.res with aJ:=6}} (q:=15) (v:=I 6);have A4:=A3.g (az kt) {x with res:={x.res with aJ:=6},ae:=16} (q:=2) (v:=I 16);rw[aA]at A4;have BX:=ag A4;clear A2 A3 A4 R2 kt B2)
  refine bodyPost_ret (results_none rfl _ _ _) rfl ?_;exact⟨rfl,_,BX.out⟩
end
section
variable{af:Nat}{F:Fx}{w w0 w':World}{m m0 m':Mem}{S S':Wd}{L:List (Nat×Obj)}
theorem OU{ch:Int}(h:cZ S ch=true):∃c:Nat,ch=(c:Int)+1∧c<S.au.length:=by
 unfold cZ at h;simp only[qs,decide_eq_true_eq]at h;exact⟨(ch-1).toNat,by omega,by omega⟩
theorem bz.iJ(R:bz af F w m S){c:Nat}{r:Ring}(h:S.au[c]?=some r):∃rr rb,m.aV .au=some rr∧m.aV (.eU c)=some rb∧w.cell? ⟨F.al,5,none⟩=some (.slice (some ⟨rr,0,none⟩) S.au.length (m.cap .au))∧w.cell? ⟨rr,c,none⟩=some (.pointer (some ⟨rb,0,none⟩)):=by
 have hc:c<S.au.length:=cA h;obtain⟨rr,pL⟩:=R.has (r:=.au) (by simp only[aj];intro e;rw[List.map_eq_nil_iff,List.range_eq_nil]at e;omega);obtain⟨rb,fA⟩:=R.has (r:=.eU c) (by simp[aj,h]);refine⟨rr,rb,pL,fA,by rw[←Mem.de pL];exact R.qx,R.cell pL ?_⟩;simp only[aj,na,List.getElem?_range hc,km];rw[Mem.lz fA]
theorem bz.ka(R:bz af F w m S){c:Nat}{b:Bool}(h:S.aO[c]?=some b):∃cb,m.aV .aO=some cb∧w.cell? ⟨F.al,6,none⟩=some (.slice (some ⟨cb,0,none⟩) S.aO.length (m.cap .aO))∧w.cell? ⟨cb,c,none⟩=some (B b):=by
 have hc:c<S.aO.length:=cA h;obtain⟨cb,fP⟩:=R.has (r:=.aO) (by simp only[aj];intro e;have:=congrArg List.length e;simp at this;rw[this]at hc;simp at hc);exact⟨cb,fP,by rw[←Mem.de fP];exact R.Cv,R.cell fP (by simp[aj,h])⟩
theorem Dc(R:bz af F w m S)(ch:Int)(n:Nat):Calls prog 138 #[.pointer (some ⟨F.al,0,none⟩),I ch] (w.drewN n) fun e w'=>e=.returned (.bool (cZ S ch))∧w'=w.drewN n:=
 (gJ (w:=w.drewN n) (R.heap fun _ _ _=>rfl) ch).mono fun e w' ⟨h1,h2⟩=>⟨h1,h2.symm⟩
theorem qI(aG:Good S){ch:Int}(h:cZ S ch=true):∃c b,ch=((c:Nat):Int)+1∧S.aO[c]?=some b∧dK S ch=b:=by
 obtain⟨c,rfl,hc⟩:=OU h;obtain⟨b,hb⟩:∃b,S.aO[c]?=some b:=⟨_,fv (by rw[aG.nA];exact hc)⟩;refine⟨c,b,rfl,hb,?_⟩;unfold dK;rw[h,show(c:Int)+1-1=(c:Int)by omega,eR,hb];rfl
theorem Dd(R:bz af F w m S)(aG:Good S)(g:Nat)(o:cu)(bO:eX o.ch)(ca:Option Addr)(cn cc:Nat):Calls prog 147 #[.agg #[.pointer (some ⟨F.al,0,none⟩),I g,I o.ai,I o.ch,I o.n,I o.v,.slice ca cn cc,B o.dG]] w (eL (.bool (dK S o.ch)) fun w'=>At af F m w m w' S):=by
 have HX:=ag ((AB.iU R).alloc (.cells #[.pointer (some ⟨F.al,0,none⟩),I g,I o.ai,I o.ch,I o.n,I o.v,.slice ca cn cc,B o.dG] 173))
 cases hm:cZ S o.ch with
 |false=>
  have gm:dK S o.ch=false:=by unfold dK;rw[hm];rfl
  rw[gm];have HM:=ag (fun n=>Dc HX.out.bj o.ch n);rw[hm]at HM;clear R aG hm gm;go_enter func147,ntmps147;go_wp2_with fail
  go_quiet ((go_at_call 138;exact Calls.quiet_of_same (HM.out _)));go_wp2;go_ret;exact⟨rfl,HX.out.at_.aI⟩
 |true=>
  obtain⟨c,b,hc,hb,gm⟩:=qI aG hm;rw[gm];obtain⟨cb,fP,c6,cx⟩:=R.ka hb;have De:c<S.aO.length:=cA hb;have aU:=R.lt R.aB.al;have EX:=R.lt fP;have HM:=ag (fun n=>Dc HX.out.bj o.ch n);rw[hm]at HM;have hs:IntKind.i64.wrap ((c:Int)+1-1)=(c:Int):=by rw[jX _ (by omega)];omega
  rw[hc]at HM HX ⊢;have xz:(c:Int)+1≤1000000000:=by omega
  clear R aG hm gm hb fP hc bO;go_enter func147,ntmps147;go_wp2_with fail
  go_quiet ((go_at_call 138;exact Calls.quiet_of_same (HM.out _)));go_wp2;go_ret;exact⟨rfl,HX.out.at_.aI⟩
theorem qJ(R:bz af F w m S)(aG:Good S)(ch:Int)(bO:eX ch):Calls prog 162 #[bR F,I ch] w (eL (.bool (dK S ch)) fun w'=>w=w'):=by
 have HM:=ag (gJ R ch)
 cases hm:cZ S ch with
 |false=>
  have gm:dK S ch=false:=by unfold dK;rw[hm];rfl
  rw[gm];rw[hm]at HM;clear R aG hm gm;unfold bR;go_enter func162,ntmps162;go_wp2_with (go_at_call 138;refine HM.out.mono ?_;rintro e w' ⟨rfl,rfl⟩);go_ret;exact⟨rfl,rfl⟩
 |true=>
  obtain⟨c,b,hc,hb,gm⟩:=qI aG hm;rw[gm];obtain⟨cb,fP,c6,cx⟩:=R.ka hb;have De:c<S.aO.length:=cA hb;rw[hm]at HM;have hs:IntKind.i64.wrap ((c:Int)+1-1)=(c:Int):=by rw[jX _ (by omega)];omega
  subst hc;clear R aG hm gm hb fP;unfold bR;go_enter func162,ntmps162;go_wp2_with (go_at_call 138;refine HM.out.mono ?_;rintro e w' ⟨rfl,rfl⟩);go_ret;exact⟨rfl,rfl⟩
theorem xB(ch:Int)(bO:eX ch)(w:World):Calls prog 167 #[I ch] w (eL (I (2*ch-2)) fun w'=>w=w'):=by
 go_enter func167,ntmps167;go_wp2;go_ret;exact⟨rfl,rfl⟩
theorem tp(ch:Int)(bO:eX ch)(w:World):Calls prog 164 #[I ch] w (eL (I (2*ch-1)) fun w'=>w=w'):=by
 go_enter func164,ntmps164;go_wp2;go_ret;exact⟨rfl,rfl⟩
theorem kh(ch:Int)(bO:eX ch)(w:World):Calls prog 176 #[I ch] w (eL (I (2*ch-2)) fun w'=>w=w'):=by
 go_enter func176,ntmps176;go_wp2;go_ret;exact⟨rfl,rfl⟩
theorem kb(ch:Int)(bO:eX ch)(w:World):Calls prog 177 #[I ch] w (eL (I (2*ch-1)) fun w'=>w=w'):=by
 go_enter func177,ntmps177;go_wp2;go_ret;exact⟨rfl,rfl⟩
theorem kx{ch:Int}{c:Nat}{r:Ring}(h:kq S ch=some (c,r)):ch=(c:Int)+1∧S.au[c]?=some r:=by
 unfold kq at h;simp only[bW,cI]at h;obtain⟨c',h1,r',h2,h3⟩:=h
 cases h3;have:=du h1;exact⟨by omega,h2⟩
theorem SP(X:AB af F m0 w0 m w S L){i rb:Nat}{r:Ring}(h:S.au[i]?=some r)(fA:m.aV (.eU i)=some rb):Calls prog 204 #[.pointer (some ⟨rb,0,none⟩)] w (eL (.bool r.full) fun w'=>AB af F m0 w0 m w' S L):=
 (vO X.bj h fA).mono fun e w' ⟨h1,n,h2⟩=>⟨h1,by subst h2;exact X.aI⟩
theorem ZD(R:bz af F w m S)(k:Int)(n:Nat):Calls prog 205 #[.pointer (some ⟨F.aw,0,none⟩),I k] (w.drewN n) fun e w'=>e=.returned (I (S.aw.len k))∧w'=w.drewN n:=
 (By (w:=w.drewN n) (R.heap fun _ _ _=>rfl) k).mono fun e w' ⟨h1,h2⟩=>⟨h1,h2.symm⟩
theorem lW(R:bz af F w m S)(ch:Int)(bO:eX ch)(b:Bool)(hm:iX S ch=some b):Calls prog 161 #[bR F,I ch] w (eL (.bool b) fun w'=>∃n,w'=w.drewN n):=by
 have HM:=ag (gJ R ch);unfold iX at hm
 cases gv:cZ S ch with
 |false=>
  rw[aF gv]at hm
  cases hm;rw[gv]at HM;clear R gv;unfold bR;go_enter func161,ntmps161;go_wp2_with (go_at_call 138;refine HM.out.mono ?_;rintro e w' ⟨rfl,rfl⟩);go_ret;exact⟨rfl,0,rfl⟩
 |true=>
  rw[aE (by simp[gv])]at hm;rw[gv]at HM;simp only[bW,cI]at hm;obtain⟨⟨c,r⟩,tS,hm⟩:=hm;obtain⟨Wi,hr⟩:=kx tS;subst Wi;clear tS;obtain⟨rr,rb,pL,fA,c5,cp⟩:=R.iJ hr;obtain⟨Hw,gr,a,cc,hh,k0,k1,k2,_⟩:=R.eU hr;rw[fA]at gr
  cases gr;have gm:c<S.au.length:=cA hr;have hs:IntKind.i64.wrap ((c:Int)+1-1)=(c:Int):=by rw[jX _ (by omega)];omega
  have c8:=R.dR;have HL:=ag (fun n=>ZD R (2*((c:Int)+1)-1) n);obtain⟨n,hn⟩:=dC (r.places.length);unfold Ring.room at hm;rw[←hn]at k0 hm;by_cases hp:(0:Int)<(n:Int)
  ·rw[aF hp]at hm
   cases hm;have vT:0<n:=(by omega);clear R hr pL fA hh hn gv;unfold bR;go_enter func161,ntmps161;go_wp2_with (first|(go_at_call 138;refine HM.out.mono ?_;rintro e w' ⟨rfl,rfl⟩)|go_in);go_ret;exact⟨rfl,0,rfl⟩
  ·rw[aE hp]at hm;obtain rfl:n=0:=by omega
   have hb:b=decide (0<S.aw.len (2*((c:Int)+1)-1)):=by
    have e:(2*((c:Int)+1)-1)=2*((c:Int)+1)-1:=rfl
    cases hm;rfl
   obtain⟨q,hq⟩:=dC (S.aw.len (2*((c:Int)+1)-1));rw[←hq]at HL hb;subst hb;obtain⟨kk,kE⟩:=dC ((2*((c:Int)+1)-1));rw[←kE]at HL;have HSN:=ag (fun W=>tp ((c:Int)+1) bO W);rw[←kE]at HSN;clear R hr pL fA hh hn gv hm hq kE;unfold bR;go_enter func161,ntmps161;go_wp2_with (first|(go_at_call 138;refine HM.out.mono ?_;rintro e w' ⟨rfl,rfl⟩)|go_in);go_quiet ((first|(go_at_call 164;exact Calls.quiet_of_same ((HSN.out _).mono fun _ _ h=>⟨h.1,h.2.symm⟩))|(go_at_call 205;exact Calls.quiet_of_same (HL.out _))));go_wp2;go_ret;exact⟨rfl,_,rfl⟩
end
end Go.Proofs.YtadifmnmfnihdaaGreat
