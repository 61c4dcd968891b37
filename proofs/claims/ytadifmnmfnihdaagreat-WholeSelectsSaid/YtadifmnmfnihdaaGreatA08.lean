import Derived.Test.YtadifmnmfnihdaaGreatA01
set_option linter.all false
set_option maxRecDepth 100000
set_option maxHeartbeats 40000000
namespace Go.Proofs.YtadifmnmfnihdaaGreat
open Go.RowKit Mach Go.Proofs.Tryz
section
variable{af:Nat}{F:Fx}{w:World}{m:Mem}{S:Wd}
theorem LO(R:bz af F w m S)(x:Int)(q':bf)(b:Bool)(hm:S.aw.drop x=some (q',b)):Calls prog 150 #[.pointer (some ⟨F.aw,0,none⟩),I x] w (eL (.bool b) fun w'=>At af F m w m w' {S with aw:=q'}):=by
 have Ry:=ag (NN R x);have HR:=ag (At.refl R);unfold bf.drop at hm
 cases hx:idx S.aw.aS x with
 |none=>
  simp only[hx]at hm
  cases hm;have hq:Sa S.aw x=(0,false):=by unfold Sa;rw[hx]
  rw[hq]at Ry;clear R hx hq;go_enter func150,ntmps150;go_wp2_with (go_at_call 206;refine Ry.out.mono ?_;rintro e w' ⟨rfl,rfl⟩);go_ret;exact⟨rfl,HR.out⟩
 |some t=>
  obtain⟨j,rfl,hj,Nj⟩:=mO hx;simp only[hx]at hm;by_cases hi:t.pX= -1
  ·rw[aF hi]at hm
   cases hm;have hq:Sa S.aw j=(0,false):=(by unfold Sa;rw[hx];simp[hi]);rw[hq]at Ry;clear R hx hq hi Nj;go_enter func150,ntmps150;go_wp2_with (go_at_call 206;refine Ry.out.mono ?_;rintro e w' ⟨rfl,rfl⟩);go_ret;exact⟨rfl,HR.out⟩
  ·rw[aE hi]at hm;have hq:Sa S.aw j=(t.pX,true):=by unfold Sa;rw[hx];simp[hi]
   rw[hq]at Ry;rw[oU]at hm
   cases ho:S.aw.out j t with
   |none=>rw[ho]at hm;cases hm
   |some q2=>
    rw[ho]at hm;simp only[km]at hm
    cases hm;unfold bf.out at ho;simp only[bW,cI]at ho;obtain⟨k,hk,l,hl,ho⟩:=ho;have hk':=du hk;by_cases eK:kJ l.count=false
    ·rw[aF eK]at ho;cases ho
    rw[aE eK]at ho;have Aq:k<S.aw.bM.length:=cA hl;have cT:=R.xN;have cL:=R.yq;obtain⟨e0,e1,e2⟩:=R.thing Nj;obtain⟨l0,l1,l2⟩:=R.line hl;have fl:=R.frozen R.aB.bM;have ft:=R.frozen R.aB.aS;have Lq:=R.lt R.aB.aw;have Lr:=R.lt R.aB.aS;have N4:=R.lt R.aB.bM;have vP:=R.ne R.aB.aw R.aB.aS;have xr:=R.ne R.aB.aw R.aB.bM;have vQ:=R.ne R.aB.aS R.aB.aw;have xt:=R.ne R.aB.aS R.aB.bM;have xu:=R.ne R.aB.bM R.aB.aw;have xv:=R.ne R.aB.bM R.aB.aS;have N5:=fun y z h=>R.thing (j:=y) (x:=z) h
    rw[hk']at Ry e0;have VH: -1000000000≤l.count∧l.count≤1000000000:=(by simpa[kJ]using eK);obtain⟨VI,J5,UC,VJ⟩:=ia Nj hl ft N5;have f2:=fl (k*3+2);have f1:=fl (k*3+1);have f0:=fl (k*3);have ft0:=ft (j*3);have ft1:=ft (j*3+1);have ft2:=ft (j*3+2);clear R hx hq hi Nj hl hk hk' eK fl ft N5;by_cases ha:t.ahead= -1
    ·rw[aF ha]at ho;by_cases hb:t.behind= -1
     ·rw[ha]at e2;rw[hb]at e1;simp only[eN,aF hb]at ho
      cases ho;rw[ha,hb];have A1:=HR.out.line (q:=0) J5.out {l with first:= -1} (by omega) (v:=I (-1)) rfl
      have A2:=A1.line (q:=1) (lE J5.out) {l with first:= -1,last:= -1} (by omega) (v:=I (-1)) rfl;have A3:=A2.line (q:=2) (lE (lE J5.out)) {l with first:= -1,last:= -1,count:=l.count-1} (by omega) (v:=I (l.count-1)) rfl;have A4:=ag (A3.vK (j:=j) (x:=t) VI.out {});clear ha hb A1 A2 A3;go_enter func150,ntmps150;go_wp2_with (go_at_call 206;refine Ry.out.mono ?_;rintro e w' ⟨rfl,rfl⟩);go_ret;exact⟨rfl,(A4.out.alloc _).eq (by simp[bf.fe,bf.fJ,my])⟩
     ·rw[ha]at e2;simp only[eN,aE hb,cI]at ho;obtain⟨⟨q3,l3⟩,⟨y,hy,ty,nI,SG⟩,ho⟩:=ho;have uO:=du hy;by_cases Nk:y=j
      ·rw[aF Nk]at SG;cases SG
      rw[aE Nk]at SG
      cases SG
      cases ho;rw[ha,uO];rw[uO]at e1;have Hy:((y:Int)== -1)=false:=(by simp);have hyl:y<S.aw.aS.length:=cA nI;obtain⟨t0,t1,t2⟩:=VJ.out y ty nI;have fy:=UC.out (y*3+2);have A1:=HR.out.line (q:=0) J5.out {l with first:=y} (by omega) (v:=I y) rfl
      have A2:=A1.thing (q:=2) (j:=y) (x:=ty) nI {ty with ahead:= -1} (by omega) (v:=I (-1)) rfl;have A3:=A2.line (q:=2) (j:=k) (x:={l with first:=y}) (lE J5.out) {l with first:=y,count:=l.count-1} (by omega) (v:=I (l.count-1)) rfl;have A4:=ag (A3.vK (j:=j) (x:=t) (rL VI.out Nk) {});clear ha hb A1 A2 A3 nI hy uO;go_enter func150,ntmps150;go_wp2_with (go_at_call 206;refine Ry.out.mono ?_;rintro e w' ⟨rfl,rfl⟩);go_region;go_wp2;go_ret;exact⟨rfl,((A4.out.alloc _).eq (by simp[bf.fe,bf.fJ,my])).drew⟩
    ·simp only[aE ha,cI]at ho;obtain⟨⟨q3,l3⟩,⟨y,hy,ty,nI,SG⟩,ho⟩:=ho;have uO:=du hy;by_cases Nk:y=j
     ·rw[aF Nk]at SG;cases SG
     rw[aE Nk]at SG
     cases SG;rw[uO]at e2;have hyl:y<S.aw.aS.length:=cA nI;obtain⟨t0,t1,t2⟩:=VJ.out y ty nI;have fy:=UC.out (y*3+1);have Hy:((y:Int)== -1)=false:=(by simp);by_cases hb:t.behind= -1
     ·rw[hb]at e1;simp only[aF hb,cI]at ho;obtain⟨⟨q4,l4⟩,h4,ho⟩:=ho
      cases h4
      cases ho;rw[hb,uO];have A1:=HR.out.thing (q:=1) (j:=y) (x:=ty) nI {ty with behind:= -1} (by omega) (v:=I (-1)) rfl
      have A2:=A1.line (q:=1) (j:=k) (x:=l) J5.out {l with last:=y} (by omega) (v:=I y) rfl;have A3:=A2.line (q:=2) (j:=k) (x:={l with last:=y}) (lE J5.out) {l with last:=y,count:=l.count-1} (by omega) (v:=I (l.count-1)) rfl;have A4:=ag (A3.vK (j:=j) (x:=t) (rL VI.out Nk) {});clear ha hb A1 A2 A3 nI hy uO;go_enter func150,ntmps150;go_wp2_with (go_at_call 206;refine Ry.out.mono ?_;rintro e w' ⟨rfl,rfl⟩);go_region;go_wp2;go_ret;exact⟨rfl,((A4.out.alloc _).eq (by simp[bf.fe,bf.fJ,my])).drew⟩
     ·simp only[aE hb,cI]at ho;obtain⟨⟨q4,l4⟩,⟨z,hz,tz,Sk,ho4⟩,ho⟩:=ho;have xq:=du hz;by_cases V3:z=j
      ·rw[aF V3]at ho4;cases ho4
      rw[aE V3]at ho4
      cases ho4
      cases ho;rw[xq]at e1;have hzn:((z:Int)== -1)=false:=(by simp);have Ls:y*3+1≠z*3+2:=(by omega);have aw6:z*3+2≠y*3+1:=(by omega);have Ay:z<S.aw.aS.length:=(by have:=cA Sk;simpa[bf.fJ]using this);obtain⟨tz0,Zu⟩:∃x,S.aw.aS[z]?=some x:=⟨_,fv Ay⟩;obtain⟨z0,z1,z2⟩:=VJ.out z tz0 Zu;have fz:=UC.out (z*3+2);have A1:=HR.out.thing (q:=1) (j:=y) (x:=ty) nI {ty with behind:=z} (by omega) (v:=I z) rfl
      rw[xq]at Sk;have A2:=A1.thing (q:=2) (j:=z) (x:=tz) Sk {tz with ahead:=y} (by omega) (v:=I y) rfl;have A3:=A2.line (q:=2) (j:=k) (x:=l) J5.out {l with count:=l.count-1} (by omega) (v:=I (l.count-1)) rfl;have A4:=ag (A3.vK (j:=j) (x:=t) (rL (rL VI.out Nk) V3) {});rw[xq,uO];clear ha hb A1 A2 A3 nI hy uO Sk Zu hz xq;go_enter func150,ntmps150;go_wp2_with (go_at_call 206;refine Ry.out.mono ?_;rintro e w' ⟨rfl,rfl⟩);go_region;go_wp2;go_region;go_wp2;go_ret;exact⟨rfl,((A4.out.alloc _).eq (by simp[bf.fe,bf.fJ,my])).drew.drew⟩
end
section
variable{af:Nat}{F:Fx}{w w0:World}{m m0:Mem}{S:Wd}
theorem mF{S S':Wd}{x:Int}(h:fZ S x=some S'):∃q b,S.aw.drop x=some (q,b)∧S'={S with aw:=q}:=by
 unfold fZ at h
 cases hq:S.aw.drop x with
 |none=>rw[hq]at h;cases h
 |some q=>rw[hq]at h;cases h;exact⟨q.1,q.2,rfl,rfl⟩
theorem kv(A:At af F m0 w0 m w S){x:Int}{S':Wd}(h:fZ S x=some S'):Calls prog 150 #[.pointer (some ⟨F.aw,0,none⟩),I x] w fun e w'=>(∃b,e=.returned (.bool b))∧At af F m0 w0 m w' S':=by
 obtain⟨q,b,hq,rfl⟩:=mF h;exact(LO A.bj x q b hq).mono fun e w' ⟨h1,h2⟩=>⟨⟨b,h1⟩,A.cont h2⟩
theorem Kh(A:At af F m0 w0 m w S){g s:Nat}{S':Wd}(h:pair S g s=some S'):Calls prog 151 #[bR F,I g,I s] w (ee fun w'=>At af F m0 w0 m w' S'):=
 (Le A.bj g s S' h).mono fun e w' ⟨h1,h2⟩=>⟨h1,A.cont h2⟩
theorem dr{g:Nat}{p:Int}{S':Wd}(h:cD S g p=some S'):∃x,S.gs[g]?=some x∧S'=S.ay g {x with ae:=p}:=by
 unfold cD fL at h
 cases hx:S.gs[g]? with
 |none=>rw[hx]at h;cases h
 |some x=>rw[hx]at h;cases h;exact⟨x,rfl,rfl⟩
theorem LP(R:bz af F w m S)(g:Nat)(k Ey hand:Int)(S':Wd)(ok:Bool)(hm:Mach.take S g k Ey hand=some (S',ok)):Calls prog 96 #[bR F,I g,I k,I Ey,I hand] w (eL (.bool ok) fun w'=>At af F m w m w' S'):=by
 have HF:=ag (nk R k);have HR:=ag (At.refl R);have c3:=R.eu;have c8:=R.dR;have c9:=R.ed;have c2:=R.dM;unfold Mach.take at hm;by_cases eK:(S.aw.first k).2=false
 ·rw[aF eK]at hm
  cases hm;rw[eK]at HF;clear R eK;unfold bR;go_enter func96,ntmps96;go_wp2_with (go_at_call 149;refine HF.out.mono ?_;rintro e w' ⟨rfl,rfl⟩);go_ret;exact⟨rfl,HR.out⟩
 rw[aE eK]at hm;have CP:(S.aw.first k).2=true:=by simpa using eK
 simp only[bW,cI]at hm;obtain⟨s,hs,x,hx,sd,eo,hm⟩:=hm;have hs:=du hs;rw[CP,hs]at HF;have eM:=cA hx;have mj:s<S.ah.length:=cA eo;obtain⟨g2,xV⟩:=R.ef hx 2 _ rfl;obtain⟨g9,Rz⟩:=R.ef hx 9 _ rfl;obtain⟨g10,Zv⟩:=R.ef hx 10 _ rfl;have s3:=R.s eo 3 _ rfl;have aU:=R.lt R.aB.al;have cm:=R.lt R.aB.gs;have fO:=R.lt R.aB.ah;have aY:=R.ne R.aB.al R.aB.gs;have dx:=R.ne R.aB.al R.aB.ah;have aZ:=R.ne R.aB.gs R.aB.al;have ez:=R.ne R.aB.gs R.aB.ah;have dz:=R.ne R.aB.ah R.aB.al;have eB:=R.ne R.aB.ah R.aB.gs;by_cases lR:0≤sd.case
 ·rw[aF lR]at hm
  cases hm;have A1:=HR.out.g hx {x with br:=s} (q:=9) (v:=I s)
  have A2:=A1.g (az hx) {x with br:=s,ae:=Ey} (q:=2) (v:=I Ey);rw[aA]at A2;have HA:=ag A2;clear R eK CP hs hx eo A1 A2;unfold bR;go_enter func96,ntmps96;go_wp2_with (go_at_call 149;refine HF.out.mono ?_;rintro e w' ⟨rfl,rfl⟩);go_ret;exact⟨rfl,HA.out⟩
 ·rw[aE lR]at hm;simp only[cI]at hm;obtain⟨S3,h3,S4,h4,hm⟩:=hm
  cases kM:cD S4 g hand with
  |none=>rw[kM]at hm;cases hm
  |some S5=>
   rw[kM]at hm
   cases hm;obtain⟨x4,vB,rfl⟩:=dr kM;have fP:decide (0≤sd.case)=false:=(by simpa using lR);have A1:=HR.out.g hx {x with br:=s} (q:=9) (v:=I s)
   have A2:=A1.g (az hx) {x with br:=s,t:=S.av} (q:=10) (v:=I S.av);rw[aA]at A2;have HA:=ag A2;obtain⟨H3,H4,ux⟩:=ij h3 h4 vB;clear R eK CP hs hx eo A1 A2 h3 h4 vB kM;unfold bR;go_enter func96,ntmps96;go_wp2_with (first|(go_at_call 149;refine HF.out.mono ?_;rintro e w' ⟨rfl,rfl⟩)|(go_at_call 150;refine(kv HA.out H3.out).mono ?_;rintro e w2 ⟨⟨b,rfl⟩,A3⟩;have vC:=ag A3;clear A3)|(go_at_call 151;refine(Kh vC.out H4.out).mono ?_;rintro e w3 ⟨rfl,A4⟩;have R4:=A4.bj;have p2:=R4.g ux.out 2 _ rfl;have wW:=R4.frozen R4.aB.gs (g*25+2);have A5:=A4.g ux.out {x4 with ae:=hand} (q:=2) (v:=I hand);have vV:=ag A5;clear A4 A5 R4));go_ret;exact⟨rfl,vV.out⟩
theorem Ff(R:bz af F w m S)(g:Nat)(lost Eh:Int)(S':Wd)(hm:rD S g lost Eh=some S'):Calls prog 99 #[bR F,I g,I lost,I Eh] w (ee fun w'=>At af F m w m w' S'):=by
 have HR:=ag (At.refl R);have c3:=R.eu;have c8:=R.dR;have c9:=R.ed;have c2:=R.dM;unfold rD at hm;simp only[bW,cI]at hm;obtain⟨x,hx,s,hs,sd,eo,z,hz,y,hy,hm⟩:=hm;have hs:=du hs;have hz:=du hz;by_cases mh:z=g
 ·rw[aF mh]at hm;cases hm
 rw[aE mh]at hm;have eM:=cA hx;have Ay:z<S.gs.length:=cA hy;have mj:s<S.ah.length:=cA eo;obtain⟨g9,Rz⟩:=R.ef hx 9 _ rfl;obtain⟨g10,Zv⟩:=R.ef hx 10 _ rfl;obtain⟨g2,xV⟩:=R.ef hx 2 _ rfl;obtain⟨z6,zf6⟩:=R.ef hy 6 _ rfl;have s1:=R.s eo 1 _ rfl;have aU:=R.lt R.aB.al;have cm:=R.lt R.aB.gs;have fO:=R.lt R.aB.ah;have aY:=R.ne R.aB.al R.aB.gs;have dx:=R.ne R.aB.al R.aB.ah;have aZ:=R.ne R.aB.gs R.aB.al;have ez:=R.ne R.aB.gs R.aB.ah;have dz:=R.ne R.aB.ah R.aB.al;have eB:=R.ne R.aB.ah R.aB.gs;have o1:¬z*25+6=g*25+10:=by omega
 have o2:¬g*25+10=z*25+6:=by omega
 rw[hs]at g9;rw[hz]at s1;by_cases hp:y.bk=true
 ·rw[aF hp]at hm;simp only[cI]at hm;obtain⟨S3,h3,hm⟩:=hm
  cases hm;rw[hp]at z6;have H3:=ag h3;have nM:S3.gs[g]?=some x:=by obtain⟨q,b,_,rfl⟩:=mF h3;exact hx
  have oh:=ag nM;clear R hx eo hy hs hz hp h3 nM;unfold bR;go_enter func99,ntmps99;go_wp2_with fail
  go_quiet (fail);go_wp2_with (go_at_call 150;(refine(kv (af:=af) (F:=F) (w0:=w) (m0:=m) (m:=m) ?_ H3.out).mono ?_;exact HR.out.aI;rintro e w2 ⟨⟨b,rfl⟩,A3⟩;have R3:=A3.bj;have p9:=R3.g oh.out 9 _ rfl;have fp9:=R3.frozen R3.aB.gs (g*25+9);have p2:=R3.g oh.out 2 _ rfl;have wW:=R3.frozen R3.aB.gs (g*25+2);have vC:=ag A3;clear A3 R3));refine bodyPost_ret (results_none rfl _ _ _) rfl ?_;have A4:=vC.out.g oh.out {x with br:= -1} (q:=9) (v:=I (-1));have A5:=A4.g (az oh.out) {x with br:= -1,ae:=lost} (q:=2) (v:=I lost);rw[aA]at A5;exact⟨rfl,A5⟩
 ·rw[aE hp]at hm;have vT:y.bk=false:=by simpa using hp
  rw[vT]at z6;simp only[cI]at hm;obtain⟨S4,h4,hm⟩:=hm;obtain⟨x4,vB,rfl⟩:=dr hm;have A1:=HR.out.g hy {y with bk:=true} (q:=6) (v:=B true);have eE:(S.ay z {y with bk:=true}).gs[g]?=some x:=by rw[Cw mh];exact hx
  have A2:=A1.g eE {x with t:=S.av} (q:=10) (v:=I S.av);have HA:=ag A2;obtain⟨H4,ux⟩:=dA h4 vB;clear R hx eo hy hs hz hp vT h4 vB hm A1 A2 eE;unfold bR;go_enter func99,ntmps99;go_wp2_with fail
  go_quiet (fail);go_wp2_with (go_at_call 151;refine(Kh (af:=af) (F:=F) (w0:=w) (m0:=m) (m:=m) ?_ H4.out).mono ?_;exact HA.out.aI;rintro e w3 ⟨rfl,A4⟩;have R4:=A4.bj;have p2:=R4.g ux.out 2 _ rfl;have wW:=R4.frozen R4.aB.gs (g*25+2);have A5:=A4.g ux.out {x4 with ae:=Eh} (q:=2) (v:=I Eh);have vV:=ag A5;clear A4 A5 R4);go_end0;exact⟨rfl,vV.out⟩
end
end Go.Proofs.YtadifmnmfnihdaaGreat
