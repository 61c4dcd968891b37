import Derived.Test.YtadifmnmfnihdaaGreatA25
set_option linter.all false
set_option maxRecDepth 100000
set_option maxHeartbeats 40000000
namespace Go.Proofs.YtadifmnmfnihdaaGreat
open Go.RowKit Mach Go.Proofs.Tryz
section
variable{af:Nat}{F:Fx}{w w0 w':World}{m m0 m':Mem}{S S':Wd}{L:List (Nat×Obj)}
theorem Gy(X0:AB af F m0 w0 m w S L)(aG:Good S)(g:Nat)(o:cu)(nb:Nat)(ob:Obj)(fD:(nb,ob)∈L)(fP:CB nb ob o.cases)(cc:Nat)(S':Wd)(hm:jJ S g o=some S'):Calls prog 115 #[.pointer (some ⟨F.al,0,none⟩),I g,.agg #[I o.ai,I o.ch,I o.n,I o.v,.slice (some ⟨nb,0,none⟩) o.cases.length cc,B o.dG]] w (ee fun w'=>∃m',AB af F m0 w0 m' w' S' L):=by
 unfold jJ at hm;simp only[bW,cI]at hm;obtain⟨x,hx,i,hi,s,hs,c,hc,S1,h1,hm⟩:=hm;have hs:=du hs;obtain⟨k,hk,BG,bO⟩:=qW hc
 cases eo:c.cF with
 |true=>
  rw[eo]at hm;simp only[dt,cI]at hm;obtain⟨⟨S2,v⟩,⟨sd,au5,h2⟩,S3,h3,hm⟩:=hm
  cases h2;unfold fL at hm
  cases nM:S3.gs[g]? with
  |none=>rw[nM]at hm;cases hm
  |some x3=>
   rw[nM]at hm
   cases hm;subst hk;exact Jo X0 g x hx _ hi o nb ob fD fP cc k rfl c BG eo s hs S1 h1 sd au5 S3 h3 x3 nM
 |false=>
  rw[eo]at hm;simp only[nW,dF,cI]at hm;obtain⟨⟨S2,v⟩,h2,S3,h3,hm⟩:=hm;unfold fL at hm
  cases nM:S3.gs[g]? with
  |none=>rw[nM]at hm;cases hm
  |some x3=>
   rw[nM]at hm
   cases hm;subst hk;exact Jp X0 g x hx _ hi o nb ob fD fP cc k rfl c BG eo bO s hs S1 h1 (aG.fZ h1) S2 v h2 S3 h3 x3 nM
theorem Cn{α:Type}{f:Nat→α→List Value}:∀(l:List α) (i g:Nat) (x y:α),l[g]?=some x→f (i+g) y=f (i+g) x→bT f i (l.set g y)=bT f i l
 | [],_,_,_,_,h,_=>by simp at h
 |z::l,i,0,x,y,h,hf=>by simp at h;subst h;simp only[List.set_cons_zero,bT];rw[Nat.add_zero]at hf;rw[hf]
 |z::l,i,g+1,x,y,h,hf=>by simp only[List.set_cons_succ,bT];rw[Cn l (i+1) g x y (by simpa using h) (by rw[show i+1+g=i+(g+1)by omega];exact hf)]
theorem At.yg(A:At af F m0 w0 m w S){j:Nat}{x:bI}(hx:S.gs[j]?=some x){b k:Nat}(hb:m.aV (.bA j)=some b)(v:Int):At af F m0 w0 m (w.setCell ⟨b,k,none⟩ (I v)) (S.ay j {x with bA:=x.bA.set k v}):=by
 refine A.set (r:=.bA j) hb (by simp only[aj,az hx,hx,List.map_set]) ?_;intro r' hT;have hs:=cX (S:=S) (y:={x with bA:=x.bA.set k v}) hx
 cases r'<;>try(first|rfl|(simp only[aj,Wd.ay,kI];done))
 ·exact Cn (f:=gk m) S.gs 0 j x _ hx (by simp only[gk,kI])
 all_goals
  simp only[aj,Wd.ay,hs];first
  |(rename_i k2;by_cases e:k2=j
    ·first|(subst e;simp only[dt,hx];done)|(subst e;exact aX rfl hT)
    ·simp only[aE e];done)
  |(rename_i k2 i;by_cases e:k2=j
    ·subst e;simp only[dt,hx];done
    ·simp only[aE e];done)
theorem vr(X:AB af F m0 w0 m w S L){g:Nat}{x:bI}(hx:S.gs[g]?=some x){h:Int}(hh:dU x=some h):Calls prog 170 #[bR F,I g] w (eL (I h) fun w'=>AB af F m0 w0 m w' S L):=
 (vX X.bj g x hx h hh).mono fun e w' ⟨h1,n,h2⟩=>⟨h1,h2▸X.aI⟩
theorem At.W6(A:At af F m0 w0 m w S){j:Nat}{x:gn}(hx:S.ah[j]?=some x)(y:gn):At af F m0 w0 m (((((((w.setCell ⟨F.ah,j*7,none⟩ (B y.cK)).setCell ⟨F.ah,j*7+1,none⟩ (I y.g)).setCell ⟨F.ah,j*7+2,none⟩ (I y.ch)).setCell ⟨F.ah,j*7+3,none⟩ (I y.case)).setCell ⟨F.ah,j*7+4,none⟩ (B y.cF)).setCell ⟨F.ah,j*7+5,none⟩ (I y.v)).setCell ⟨F.ah,j*7+6,none⟩ (B y.done)) (S.cJ j y):=by
 have h:=A.Rw hx y;simp only[World.setCells,Nat.add_assoc,Nat.reduceAdd]at h;exact h
theorem AB.QL(X:AB af F m0 w0 m w S L)(n:Nat):AB af F m0 w0 m (w.drewN n) S L:=X.aI
theorem AB.af4(X:AB af F m0 w0 m w S L)(n:Nat):AB af F m0 w0 m (w.drew.drewN n) S L:=X.aI
theorem jd{S:Wd}{j:Nat}{y:bI}(h:j<S.gs.length):(S.ay j y).gs[j]?=some y:=by simp[Wd.ay,h]
theorem AB.eqS{S':Wd}(X:AB af F m0 w0 m w S L)(h:S=S'):AB af F m0 w0 m w S' L:=h▸X
theorem zV(X:AB af F m0 w0 m w S L)(ok:S.ar.Ok){g:Nat}(hg:g<S.ar.aC.length):Calls prog 154 #[.pointer (some ⟨F.ar,0,none⟩),I g] w (eL (.tuple #[I (S.ar.take g).2.1,.bool (S.ar.take g).2.2]) fun w'=>∃m',AB af F m0 w0 m' w' {S with ar:=(S.ar.take g).1} L):=
 (yW X.bj ok g hg).mono fun e w' ⟨h1,m',h2⟩=>⟨h1,m',X.av h2⟩
theorem DZ(X0:AB af F m0 w0 m w S L)(aG:Good S)(g:Nat)(x:bI)(hx:S.gs[g]?=some x)(o:cu)(nb:Nat)(ob:Obj)(fD:(nb,ob)∈L)(fP:CB nb ob o.cases)(cc:Nat)(p:fS)(v:Int)(ht:S.ar.take g=(p,v,false)):Calls prog 116 #[bR F,I g,.agg #[I o.ai,I o.ch,I o.n,I o.v,.slice (some ⟨nb,0,none⟩) o.cases.length cc,B o.dG]] w (ee fun w'=>∃m',AB af F m0 w0 m' w' (({S with ar:=p}:Wd).ay g (eZ {x with res:={x.res with aJ:=6}} 30)) L):=by
 have eM:=cA hx;have R:=X0.bj;have c3:=R.eu;have Fq:=R.tf;obtain⟨aU,cm,aY,aZ⟩:=R.pB;have HX:=ag (X0.alloc (eD o (some ⟨nb,0,none⟩) cc));have lP:=ag aG.ar;have BS:g<S.ar.aC.length:=by rw[aG.aC];exact eM
 have oR:Hid (({S with ar:=p}:Wd).gs[g]?=some x):=hx;have HT:=ag ht;clear X0 R aG hx fD fP ht;unfold bR;go_enter func116,ntmps116;go_wp2_with (go_at_call 154;refine(zV (af:=af) (F:=F) (m0:=m0) (w0:=w0) (m:=m) (S:=S) (L:=(w.heap.size,eD o (some ⟨nb,0,none⟩) cc)::L) ?_ lP.out BS).mono ?_;exact HX.out.aI;rw[HT.out];rintro e wN ⟨rfl,mN,X⟩;have RN:=X.bj;have Ip:=RN.g oR.out 15 _ rfl;have Dm:=RN.frozen RN.aB.gs (g*25+15);have Y:=X.g oR.out {x with res:={x.res with aJ:=6}} (q:=15) (v:=I 6);have HY:=ag Y;clear X Y RN);go_wp2_with (go_at_call 175;refine(pt (af:=af) (F:=F) (m0:=m0) (w0:=w0) (m:=mN) (S:=({S with ar:=p}:Wd).ay g {x with res:={x.res with aJ:=6}}) (L:=(w.heap.size,eD o (some ⟨nb,0,none⟩) cc)::L) ?_ (az oR.out) 30).mono ?_;exact HY.out.aI;rintro e wK ⟨rfl,X⟩;rw[aA]at X;have HW:=ag X;clear X);refine bodyPost_ret (results_none rfl _ _ _) rfl ?_;exact⟨rfl,_,HW.out.less fun p hp=>nO _ hp⟩
theorem Bp(X0:AB af F m0 w0 m w S L)(aG:Good S)(g:Nat)(x:bI)(hx:S.gs[g]?=some x)(o:cu)(nb:Nat)(ob:Obj)(fD:(nb,ob)∈L)(fP:CB nb ob o.cases)(cc:Nat)(p:fS)(j:Nat)(ht:S.ar.take g=(p,(j:Int),true))(kn k:Nat)(jA:x.k=kn)(Jw:(kn:Int)≤1000000000)(hi:x.aH[kn]?=some (k:Int))(c:Case)(hc:o.cases[k]?=some c)(sd:gn)(eo:S.ah[j]?=some sd)(Ye:k<x.bA.length)(he:x.aH.length≤kn+1):Calls prog 116 #[bR F,I g,.agg #[I o.ai,I o.ch,I o.n,I o.v,.slice (some ⟨nb,0,none⟩) o.cases.length cc,B o.dG]] w (ee fun w'=>∃m',AB af F m0 w0 m' w' ((({S with ar:=p}:Wd).cJ j {cK:=true,g:=g,ch:=c.ch,case:=k,cF:=c.cF,v:=c.v}).ay g {x with bA:=x.bA.set k j,k:=0,ae:=29}) L):=by
 have eM:=cA hx;have R:=X0.bj;have c3:=R.eu;have Fq:=R.tf;obtain⟨aU,cm,aY,aZ⟩:=R.pB;have HX:=ag (X0.alloc (eD o (some ⟨nb,0,none⟩) cc));have lP:=ag aG.ar;have BS:g<S.ar.aC.length:=by rw[aG.aC];exact eM
 have oR:Hid (({S with ar:=p}:Wd).gs[g]?=some x):=hx;have vA:k<o.cases.length:=cA hc;have vy:j<S.ah.length:=cA eo;obtain⟨n,hn⟩:=dC (x.aH.length);rw[←hn]at he;have hb:decide ((n:Int)≤(kn:Int)+1)=true:=by simp;omega
 obtain⟨sv,PF⟩:∃sv,x.bA[k]?=some sv:=⟨_,fv Ye⟩;have hh:dU x=some (k:Int):=by unfold dU;rw[jA,eR];exact hi
 have qH:Hid (({S with ar:=p}:Wd).ah[j]?=some sd):=eo;obtain⟨HT,KK⟩:=dA ht fP;have HM:=ag (nO (w.heap.size,eD o (some ⟨nb,0,none⟩) cc) fD);have HC:=ag hc;obtain⟨HSV,Jx,HN,HH⟩:=ia PF jA hn hh;obtain⟨cs,ch,cv⟩:=c;clear X0 R aG hx fD fP ht hc eo PF jA hn hh hi he;unfold bR;go_enter func116,ntmps116;go_wp2_with (first|(go_at_call 154;refine(zV (af:=af) (F:=F) (m0:=m0) (w0:=w0) (m:=m) (S:=S) (L:=(w.heap.size,eD o (some ⟨nb,0,none⟩) cc)::L) ?_ lP.out BS).mono ?_;exact HX.out.aI;rw[HT.out];rintro e wL ⟨rfl,mN,X⟩;have HY0:=ag X;clear X)|(go_at_call 170;refine(vr (af:=af) (F:=F) (m0:=m0) (w0:=w0) (m:=mN) (L:=(w.heap.size,eD o (some ⟨nb,0,none⟩) cc)::L) (S:={S with ar:=p}) ?_ oR.out HH.out).mono ?_;exact HY0.out.aI;rintro e wN ⟨rfl,X⟩;have RN:=X.bj;have l3:=RN.lt RN.aB.gs;have l4:=RN.lt RN.aB.al;have l5:=RN.lt RN.aB.ah;have d3:=RN.eu;have d9:=RN.ed;have yh:=RN.g oR.out 20 _ rfl;obtain⟨oa,oc,zW⟩:=RN.shape (r:=.aH g) (n:=x.aH.length) (by simp[aj,oR.out]);rw[zW,←HN.out]at yh;have AJ:=RN.g oR.out 24 _ rfl;rw[Jx.out]at AJ;have AL:=RN.frozen RN.aB.gs (g*25+24);have p2:=RN.g oR.out 2 _ rfl;have wW:=RN.frozen RN.aB.gs (g*25+2);have Es:=RN.g oR.out 22 _ rfl;obtain⟨sb,mB,nE,T0⟩:=RN.ti oR.out HSV.out;rw[nE]at Es;have fsb:=RN.frozen mB k;have NB:=RN.lt mB;have e1:=RN.ne mB RN.aB.gs;have e2:=e1.symm;have e3:=RN.ne mB RN.aB.al;have e4:=e3.symm;have e5:=RN.ne mB RN.aB.ah;have e6:=e5.symm;have e7:=RN.ne RN.aB.ah RN.aB.gs;have e8:=e7.symm;have e9:=RN.ne RN.aB.al RN.aB.gs;have Lj:=e9.symm;have W7:=RN.ne RN.aB.ah RN.aB.al;have e12:=W7.symm;obtain⟨n0,n1,n2⟩:=KK.out wN (X.loc _ HM.out).1 k _ HC.out;have Vb:=(dh (X.loc _ HM.out).1).1;obtain⟨q0,q1,q2,q3,q4,q5⟩:=jD X.head;have lb0:=(dh X.head).1;have s0:=RN.s0 qH.out;have fs0:=RN.frozen RN.aB.ah (j*7);have s1:=RN.s qH.out 1 _ rfl;have fs1:=RN.frozen RN.aB.ah (j*7+1);have s2:=RN.s qH.out 2 _ rfl;have fs2:=RN.frozen RN.aB.ah (j*7+2);have s3:=RN.s qH.out 3 _ rfl;have fs3:=RN.frozen RN.aB.ah (j*7+3);have s4:=RN.s qH.out 4 _ rfl;have fs4:=RN.frozen RN.aB.ah (j*7+4);have s5:=RN.s qH.out 5 _ rfl;have fs5:=RN.frozen RN.aB.ah (j*7+5);have s6:=RN.s qH.out 6 _ rfl;have fs6:=RN.frozen RN.aB.ah (j*7+6);obtain⟨Bm,HY⟩:=dA mB X;clear X RN mB nE zW));have Y1:=HY.out.av ((At.refl HY.out.bj).yg (k:=k) oR.out Bm.out j);have Y2:=Y1.av ((At.refl Y1.bj).W6 qH.out {cK:=true,g:=g,ch:=ch,case:=k,cF:=cs,v:=cv});have Y3:=Y2.g (az oR.out) {x with bA:=x.bA.set k j,k:=kn+1} (q:=24) (v:=I (kn+1));have Y4:=Y3.ye (n:=wN.heap.size) (.cells #[B cs,I ch,I cv] 52) (by simp[World.setCells]);have HZ:=ag (fun n=>((((AB.QL Y4 n).g (jd (by simp[Wd.ay,Wd.cJ,eM])) {x with bA:=x.bA.set k j,k:=0} (q:=24) (v:=I 0)).g (jd (by simp[Wd.ay,Wd.cJ,eM])) {x with bA:=x.bA.set k j,k:=0,ae:=29} (q:=2) (v:=I 29)).eqS (S':=(({S with ar:=p}:Wd).cJ j {cK:=true,g:=g,ch:=ch,case:=k,cF:=cs,v:=cv}).ay g {x with bA:=x.bA.set k j,k:=0,ae:=29}) (by simp[Wd.ay,Wd.cJ,my])));clear Y1 Y2 Y3 Y4;go_region
 all_goals
  go_wp2_with fail
  go_quiet (fail);go_wp2;go_end0;refine⟨rfl,mN,AB.less (L:=(wN.heap.size,.cells #[B cs,I ch,I cv] 52)::(w.heap.size,eD o (some ⟨nb,0,none⟩) cc)::L) ?_ fun p hp=>nO _ (nO _ hp)⟩;exact HZ.out _
theorem zX(X0:AB af F m0 w0 m w S L)(aG:Good S)(g:Nat)(x:bI)(hx:S.gs[g]?=some x)(o:cu)(nb:Nat)(ob:Obj)(fD:(nb,ob)∈L)(fP:CB nb ob o.cases)(cc:Nat)(p:fS)(j:Nat)(ht:S.ar.take g=(p,(j:Int),true))(kn k:Nat)(jA:x.k=kn)(Jw:(kn:Int)≤1000000000)(hi:x.aH[kn]?=some (k:Int))(c:Case)(hc:o.cases[k]?=some c)(sd:gn)(eo:S.ah[j]?=some sd)(Ye:k<x.bA.length)(he:¬x.aH.length≤kn+1):Calls prog 116 #[bR F,I g,.agg #[I o.ai,I o.ch,I o.n,I o.v,.slice (some ⟨nb,0,none⟩) o.cases.length cc,B o.dG]] w (ee fun w'=>∃m',AB af F m0 w0 m' w' ((({S with ar:=p}:Wd).cJ j {cK:=true,g:=g,ch:=c.ch,case:=k,cF:=c.cF,v:=c.v}).ay g {x with bA:=x.bA.set k j,k:=kn+1}) L):=by
 have eM:=cA hx;have R:=X0.bj;have c3:=R.eu;have Fq:=R.tf;obtain⟨aU,cm,aY,aZ⟩:=R.pB;have HX:=ag (X0.alloc (eD o (some ⟨nb,0,none⟩) cc));have lP:=ag aG.ar;have BS:g<S.ar.aC.length:=by rw[aG.aC];exact eM
 have oR:Hid (({S with ar:=p}:Wd).gs[g]?=some x):=hx;have vA:k<o.cases.length:=cA hc;have vy:j<S.ah.length:=cA eo;obtain⟨n,hn⟩:=dC (x.aH.length);rw[←hn]at he;have hb:decide ((n:Int)≤(kn:Int)+1)=false:=by simp;omega
 obtain⟨sv,PF⟩:∃sv,x.bA[k]?=some sv:=⟨_,fv Ye⟩;have hh:dU x=some (k:Int):=by unfold dU;rw[jA,eR];exact hi
 have qH:Hid (({S with ar:=p}:Wd).ah[j]?=some sd):=eo;obtain⟨HT,KK⟩:=dA ht fP;have HM:=ag (nO (w.heap.size,eD o (some ⟨nb,0,none⟩) cc) fD);have HC:=ag hc;obtain⟨HSV,Jx,HN,HH⟩:=ia PF jA hn hh;obtain⟨cs,ch,cv⟩:=c;clear X0 R aG hx fD fP ht hc eo PF jA hn hh hi he;unfold bR;go_enter func116,ntmps116;go_wp2_with (first|(go_at_call 154;refine(zV (af:=af) (F:=F) (m0:=m0) (w0:=w0) (m:=m) (S:=S) (L:=(w.heap.size,eD o (some ⟨nb,0,none⟩) cc)::L) ?_ lP.out BS).mono ?_;exact HX.out.aI;rw[HT.out];rintro e wL ⟨rfl,mN,X⟩;have HY0:=ag X;clear X)|(go_at_call 170;refine(vr (af:=af) (F:=F) (m0:=m0) (w0:=w0) (m:=mN) (L:=(w.heap.size,eD o (some ⟨nb,0,none⟩) cc)::L) (S:={S with ar:=p}) ?_ oR.out HH.out).mono ?_;exact HY0.out.aI;rintro e wN ⟨rfl,X⟩;have RN:=X.bj;have l3:=RN.lt RN.aB.gs;have l4:=RN.lt RN.aB.al;have l5:=RN.lt RN.aB.ah;have d3:=RN.eu;have d9:=RN.ed;have yh:=RN.g oR.out 20 _ rfl;obtain⟨oa,oc,zW⟩:=RN.shape (r:=.aH g) (n:=x.aH.length) (by simp[aj,oR.out]);rw[zW,←HN.out]at yh;have AJ:=RN.g oR.out 24 _ rfl;rw[Jx.out]at AJ;have AL:=RN.frozen RN.aB.gs (g*25+24);have p2:=RN.g oR.out 2 _ rfl;have wW:=RN.frozen RN.aB.gs (g*25+2);have Es:=RN.g oR.out 22 _ rfl;obtain⟨sb,mB,nE,T0⟩:=RN.ti oR.out HSV.out;rw[nE]at Es;have fsb:=RN.frozen mB k;have NB:=RN.lt mB;have e1:=RN.ne mB RN.aB.gs;have e2:=e1.symm;have e3:=RN.ne mB RN.aB.al;have e4:=e3.symm;have e5:=RN.ne mB RN.aB.ah;have e6:=e5.symm;have e7:=RN.ne RN.aB.ah RN.aB.gs;have e8:=e7.symm;have e9:=RN.ne RN.aB.al RN.aB.gs;have Lj:=e9.symm;have W7:=RN.ne RN.aB.ah RN.aB.al;have e12:=W7.symm;obtain⟨n0,n1,n2⟩:=KK.out wN (X.loc _ HM.out).1 k _ HC.out;have Vb:=(dh (X.loc _ HM.out).1).1;obtain⟨q0,q1,q2,q3,q4,q5⟩:=jD X.head;have lb0:=(dh X.head).1;have s0:=RN.s0 qH.out;have fs0:=RN.frozen RN.aB.ah (j*7);have s1:=RN.s qH.out 1 _ rfl;have fs1:=RN.frozen RN.aB.ah (j*7+1);have s2:=RN.s qH.out 2 _ rfl;have fs2:=RN.frozen RN.aB.ah (j*7+2);have s3:=RN.s qH.out 3 _ rfl;have fs3:=RN.frozen RN.aB.ah (j*7+3);have s4:=RN.s qH.out 4 _ rfl;have fs4:=RN.frozen RN.aB.ah (j*7+4);have s5:=RN.s qH.out 5 _ rfl;have fs5:=RN.frozen RN.aB.ah (j*7+5);have s6:=RN.s qH.out 6 _ rfl;have fs6:=RN.frozen RN.aB.ah (j*7+6);obtain⟨Bm,HY⟩:=dA mB X;clear X RN mB nE zW));have Y1:=HY.out.av ((At.refl HY.out.bj).yg (k:=k) oR.out Bm.out j);have Y2:=Y1.av ((At.refl Y1.bj).W6 qH.out {cK:=true,g:=g,ch:=ch,case:=k,cF:=cs,v:=cv});have Y3:=Y2.g (az oR.out) {x with bA:=x.bA.set k j,k:=kn+1} (q:=24) (v:=I (kn+1));have HZ:=ag ((Y3.ye (n:=wN.heap.size) (.cells #[B cs,I ch,I cv] 52) (by simp[World.setCells])).eqS (S':=(({S with ar:=p}:Wd).cJ j {cK:=true,g:=g,ch:=ch,case:=k,cF:=cs,v:=cv}).ay g {x with bA:=x.bA.set k j,k:=kn+1}) (by simp[Wd.ay,Wd.cJ,my]));clear Y1 Y2 Y3;go_region
 all_goals
  go_wp2_with fail
  go_quiet (fail);go_wp2;go_end0;refine⟨rfl,mN,AB.less (L:=(wN.heap.size,.cells #[B cs,I ch,I cv] 52)::(w.heap.size,eD o (some ⟨nb,0,none⟩) cc)::L) ?_ fun p hp=>nO _ (nO _ hp)⟩;exact AB.af4 HZ.out _
end
end Go.Proofs.YtadifmnmfnihdaaGreat
