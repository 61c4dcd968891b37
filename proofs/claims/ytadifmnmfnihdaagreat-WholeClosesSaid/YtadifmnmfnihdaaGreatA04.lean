import Derived.Test.YtadifmnmfnihdaaGreatA00
set_option linter.all false
set_option maxRecDepth 100000
set_option maxHeartbeats 40000000
namespace Go.Proofs.YtadifmnmfnihdaaGreat
open Go.RowKit Mach Go.Proofs.Tryz
section
variable{af:Nat}{F:Fx}{w:World}{m:Mem}{S:Wd}
theorem LO(R:bz af F w m S)(x:Int)(q':bf)(b:Bool)(hm:S.aw.drop x=some (q',b)):Calls prog 150 #[.pointer (some ⟨F.aw,0,none⟩),I x] w (eL (.bool b) fun w'=>At af F m w m w' {S with aw:=q'}):=by
 have Ry:=ag (NN R x);have HR:=ag (At.refl R);unfold bf.drop at hm
 cases hx:idx S.aw.aS x with
 |none=>
  simp only[hx]at hm
  cases hm;have hq:Sa S.aw x=(0,false):=by unfold Sa;rw[hx]
  rw[hq]at Ry;clear R hx hq;exact bc0
 |some t=>
  obtain⟨j,rfl,hj,Nj⟩:=mO hx;simp only[hx]at hm;by_cases hi:t.pX= -1
  ·rw[aF hi]at hm
   cases hm;have hq:Sa S.aw j=(0,false):=(by unfold Sa;rw[hx];simp[hi]);rw[hq]at Ry;clear R hx hq hi Nj;exact bc0
  ·rw[aE hi]at hm;have hq:Sa S.aw j=(t.pX,true):=by unfold Sa;rw[hx];simp[hi]
   rw[hq]at Ry;rw[oU]at hm
   cases ho:S.aw.out j t with
   |none=>rw[ho]at hm;cases hm
   |some q2=>
    rw[ho]at hm;simp only[km]at hm
    cases hm;unfold bf.out at ho;simp only[bW,cI]at ho;obtain⟨k,hk,l,hl,ho⟩:=ho;have hk':=du hk;by_cases eK:kJ l.count=false
    ·rw[aF eK]at ho;cases ho
    rw[aE eK]at ho;have Aq:k<S.aw.bM.length:=cA hl;have cT:=R.xN;have cL:=R.yq;obtain⟨e0,e1,e2⟩:=R.thing Nj;obtain⟨l0,l1,l2⟩:=R.line hl;have fl:=R.frozen R.aB.bM;have ft:=R.frozen R.aB.aS;obtain⟨Lq,Lr,N4,vP,xr,vQ,xt,xu,xv⟩:=R.b3X R.aB.aw R.aB.aS R.aB.bM;have N5:=fun y z h=>R.thing (j:=y) (x:=z) h
    rw[hk']at Ry e0;have VH: -1000000000≤l.count∧l.count≤1000000000:=(by simpa[kJ]using eK);obtain⟨VI,J5,UC,VJ⟩:=ia Nj hl ft N5;have f2:=fl (k*3+2);have f1:=fl (k*3+1);have f0:=fl (k*3);have ft0:=ft (j*3);have ft1:=ft (j*3+1);have ft2:=ft (j*3+2);clear R hx hq hi Nj hl hk hk' eK fl ft N5;by_cases ha:t.ahead= -1
    ·rw[aF ha]at ho;by_cases hb:t.behind= -1
     ·rw[ha]at e2;rw[hb]at e1;simp only[eN,aF hb]at ho
      cases ho;rw[ha,hb];have A1:=HR.out.line (q:=0) J5 {l with first:= -1} oX (v:=I (-1)) rfl
      have A2:=A1.line (q:=1) (lE J5) {l with first:= -1,last:= -1} oX (v:=I (-1)) rfl;have A3:=A2.line (q:=2) (lE (lE J5)) {l with first:= -1,last:= -1,count:=l.count-1} oX (v:=I (l.count-1)) rfl;have A4:=ag (A3.vK (j:=j) (x:=t) VI {});clear ha hb A1 A2 A3;go_enter func150,ntmps150;go_wp2_with (go_at_call 206;refine Ry.out.mono ?_;rintro e w' ⟨rfl,rfl⟩);go_ret;exact⟨rfl,(A4.out.alloc _).eq bo2⟩
     ·rw[ha]at e2;simp only[eN,aE hb,cI]at ho;obtain⟨⟨q3,l3⟩,⟨y,hy,ty,nI,SG⟩,ho⟩:=ho;have uO:=du hy;by_cases Nk:y=j
      ·rw[aF Nk]at SG;cases SG
      rw[aE Nk]at SG
      cases SG
      cases ho;rw[ha,uO];rw[uO]at e1;have Hy:((y:Int)== -1)=false:=sX;have hyl:y<S.aw.aS.length:=cA nI;obtain⟨t0,t1,t2⟩:=VJ.out y ty nI;have fy:=UC.out (y*3+2);have A1:=HR.out.line (q:=0) J5 {l with first:=y} oX (v:=I y) rfl
      have A2:=A1.thing (q:=2) (j:=y) (x:=ty) nI {ty with ahead:= -1} oX (v:=I (-1)) rfl;have A3:=A2.line (q:=2) (j:=k) (x:={l with first:=y}) (lE J5) {l with first:=y,count:=l.count-1} oX (v:=I (l.count-1)) rfl;have A4:=ag (A3.vK (j:=j) (x:=t) (rL VI Nk) {});clear ha hb A1 A2 A3 nI hy uO;go_enter func150,ntmps150;go_wp2_with (go_at_call 206;refine Ry.out.mono ?_;rintro e w' ⟨rfl,rfl⟩);go_region;go_wp2;go_ret;exact⟨rfl,((A4.out.alloc _).eq bo2).drew⟩
    ·simp only[aE ha,cI]at ho;obtain⟨⟨q3,l3⟩,⟨y,hy,ty,nI,SG⟩,ho⟩:=ho;have uO:=du hy;by_cases Nk:y=j
     ·rw[aF Nk]at SG;cases SG
     rw[aE Nk]at SG
     cases SG;rw[uO]at e2;have hyl:y<S.aw.aS.length:=cA nI;obtain⟨t0,t1,t2⟩:=VJ.out y ty nI;have fy:=UC.out (y*3+1);have Hy:((y:Int)== -1)=false:=sX;by_cases hb:t.behind= -1
     ·rw[hb]at e1;simp only[aF hb,cI]at ho;obtain⟨⟨q4,l4⟩,h4,ho⟩:=ho
      cases h4
      cases ho;rw[hb,uO];have A1:=HR.out.thing (q:=1) (j:=y) (x:=ty) nI {ty with behind:= -1} oX (v:=I (-1)) rfl
      have A2:=A1.line (q:=1) (j:=k) (x:=l) J5 {l with last:=y} oX (v:=I y) rfl;have A3:=A2.line (q:=2) (j:=k) (x:={l with last:=y}) (lE J5) {l with last:=y,count:=l.count-1} oX (v:=I (l.count-1)) rfl;have A4:=ag (A3.vK (j:=j) (x:=t) (rL VI Nk) {});clear ha hb A1 A2 A3 nI hy uO;go_enter func150,ntmps150;go_wp2_with (go_at_call 206;refine Ry.out.mono ?_;rintro e w' ⟨rfl,rfl⟩);go_region;go_wp2;go_ret;exact⟨rfl,((A4.out.alloc _).eq bo2).drew⟩
     ·simp only[aE hb,cI]at ho;obtain⟨⟨q4,l4⟩,⟨z,hz,tz,Sk,ho4⟩,ho⟩:=ho;have xq:=du hz;by_cases V3:z=j
      ·rw[aF V3]at ho4;cases ho4
      rw[aE V3]at ho4
      cases ho4
      cases ho;rw[xq]at e1;have hzn:((z:Int)== -1)=false:=sX;have Ls:y*3+1≠z*3+2:=oX;have aw6:z*3+2≠y*3+1:=oX;have Ay:z<S.aw.aS.length:=(by have:=cA Sk;simpa[bf.fJ]using this);obtain⟨tz0,Zu⟩:∃x,S.aw.aS[z]?=some x:=⟨_,fv Ay⟩;obtain⟨z0,z1,z2⟩:=VJ.out z tz0 Zu;have fz:=UC.out (z*3+2);have A1:=HR.out.thing (q:=1) (j:=y) (x:=ty) nI {ty with behind:=z} oX (v:=I z) rfl
      rw[xq]at Sk;have A2:=A1.thing (q:=2) (j:=z) (x:=tz) Sk {tz with ahead:=y} oX (v:=I y) rfl;have A3:=A2.line (q:=2) (j:=k) (x:=l) J5 {l with count:=l.count-1} oX (v:=I (l.count-1)) rfl;have A4:=ag (A3.vK (j:=j) (x:=t) (rL (rL VI Nk) V3) {});rw[xq,uO];clear ha hb A1 A2 A3 nI hy uO Sk Zu hz xq;go_enter func150,ntmps150;go_wp2_with (go_at_call 206;refine Ry.out.mono ?_;rintro e w' ⟨rfl,rfl⟩);go_region;go_wp2;go_region;go_wp2;go_ret;exact⟨rfl,((A4.out.alloc _).eq bo2).drew.drew⟩
end
section
variable{af:Nat}{F:Fx}{w w0:World}{m m0:Mem}{S:Wd}
theorem mF{S S':Wd}{x:Int}(h:fZ S x=some S'):∃q b,S.aw.drop x=some (q,b)∧S'={S with aw:=q}:=by
 unfold fZ at h
 cases hq:S.aw.drop x with
 |none=>rw[hq]at h;cases h
 |some q=>rw[hq]at h;cases h;exact⟨q.1,q.2,rfl,rfl⟩
theorem kv(A:At af F m0 w0 m w S){x:Int}{S':Wd}(h:fZ S x=some S'):Calls prog 150 #[.pointer (some ⟨F.aw,0,none⟩),I x] w fun e w'=>(∃b,e=.returned (.bool b))∧At af F m0 w0 m w' S':=by
 obtain⟨q,b,hq,rfl⟩:=mF h;exact(LO A.bj x q b hq).mono fun e w' ⟨h1,h2⟩=>⟨⟨b,h1⟩,A.cont h2⟩
theorem Kh(A:At af F m0 w0 m w S){g s:Nat}{S':Wd}(h:pair S g s=some S'):Calls prog 151 #[bR F,I g,I s] w (ee fun w'=>At af F m0 w0 m w' S'):=
 (Le A.bj g s S' h).mono fun e w' ⟨h1,h2⟩=>⟨h1,A.cont h2⟩
theorem Nb{g:Nat}{p:Int}{S':Wd}(h:cD S g p=some S'):∃x,S.gs[g]?=some x∧S'=S.ay g {x with ae:=p}:=by
 unfold cD fL at h
 cases hx:S.gs[g]? with
 |none=>rw[hx]at h;cases h
 |some x=>rw[hx]at h;cases h;exact⟨x,rfl,rfl⟩
theorem LP(R:bz af F w m S)(g:Nat)(k Ey hand:Int)(S':Wd)(ok:Bool)(hm:Mach.take S g k Ey hand=some (S',ok)):Calls prog 96 #[bR F,I g,I k,I Ey,I hand] w (eL (.bool ok) fun w'=>At af F m w m w' S'):=by
 have HF:=ag (nk R k);have HR:=ag (At.refl R);have c3:=R.eu;have c8:=R.dR;have c9:=R.ed;have c2:=R.dM;unfold Mach.take at hm;by_cases eK:(S.aw.first k).2=false
 ·rw[aF eK]at hm
  cases hm;rw[eK]at HF;clear R eK;unfold bR;go_enter func96,ntmps96;go_wp2_with (go_at_call 149;refine HF.out.mono ?_;rintro e w' ⟨rfl,rfl⟩);go_ret;exact⟨rfl,HR⟩
 rw[aE eK]at hm;have CP:(S.aw.first k).2=true:=by simpa using eK
 simp only[bW,cI]at hm;obtain⟨s,hs,x,hx,sd,RY,hm⟩:=hm;have hs:=du hs;rw[CP,hs]at HF;have eM:=cA hx;have mj:s<S.ah.length:=cA RY;obtain⟨g2,xV⟩:=R.ps hx 2 _ rfl;obtain⟨g9,Rz⟩:=R.ps hx 9 _ rfl;obtain⟨g10,Zv⟩:=R.ps hx 10 _ rfl;have s3:=R.s RY 3 _ rfl;obtain⟨aU,cm,fO,aY,dx,aZ,ez,dz,eB⟩:=R.b3X R.aB.al R.aB.gs R.aB.ah;by_cases lR:0≤sd.case
 ·rw[aF lR]at hm
  cases hm;have A1:=HR.out.g hx {x with br:=s} (q:=9) (v:=I s)
  have A2:=A1.g (az hx) {x with br:=s,ae:=Ey} (q:=2) (v:=I Ey);rw[aA]at A2;have HA:=ag A2;clear R eK CP hs hx RY A1 A2;unfold bR;go_enter func96,ntmps96;go_wp2_with (go_at_call 149;refine HF.out.mono ?_;rintro e w' ⟨rfl,rfl⟩);go_ret;exact⟨rfl,HA⟩
 ·rw[aE lR]at hm;simp only[cI]at hm;obtain⟨S3,h3,S4,h4,hm⟩:=hm
  cases kM:cD S4 g hand with
  |none=>rw[kM]at hm;cases hm
  |some S5=>
   rw[kM]at hm
   cases hm;obtain⟨x4,vB,rfl⟩:=Nb kM;have fP:decide (0≤sd.case)=false:=(by simpa using lR);have A1:=HR.out.g hx {x with br:=s} (q:=9) (v:=I s)
   have A2:=A1.g (az hx) {x with br:=s,t:=S.av} (q:=10) (v:=I S.av);rw[aA]at A2;have HA:=ag A2;obtain⟨H3,H4,ux⟩:=ij h3 h4 vB;clear R eK CP hs hx RY A1 A2 h3 h4 vB kM;unfold bR;go_enter func96,ntmps96;go_wp2_with (first|(go_at_call 149;refine HF.out.mono ?_;rintro e w' ⟨rfl,rfl⟩)|(go_at_call 150;refine(kv HA H3).mono ?_;rintro e w2 ⟨⟨b,rfl⟩,A3⟩;have vC:=ag A3;clear A3)|(go_at_call 151;refine(Kh vC.out H4).mono ?_;rintro e w3 ⟨rfl,A4⟩;have R4:=A4.bj;have p2:=R4.g ux 2 _ rfl;have wW:=R4.frozen R4.aB.gs (g*25+2);have A5:=A4.g ux {x4 with ae:=hand} (q:=2) (v:=I hand);have vV:=ag A5;clear A4 A5 R4));go_ret;exact⟨rfl,vV⟩
theorem Ff(R:bz af F w m S)(g:Nat)(lost Eh:Int)(S':Wd)(hm:rD S g lost Eh=some S'):Calls prog 99 #[bR F,I g,I lost,I Eh] w (ee fun w'=>At af F m w m w' S'):=by
 have HR:=ag (At.refl R);have c3:=R.eu;have c8:=R.dR;have c9:=R.ed;have c2:=R.dM;unfold rD at hm;simp only[bW,cI]at hm;obtain⟨x,hx,s,hs,sd,RY,z,hz,y,hy,hm⟩:=hm;have hs:=du hs;have hz:=du hz;by_cases mh:z=g
 ·rw[aF mh]at hm;cases hm
 rw[aE mh]at hm;have eM:=cA hx;have Ay:z<S.gs.length:=cA hy;have mj:s<S.ah.length:=cA RY;obtain⟨g9,Rz⟩:=R.ps hx 9 _ rfl;obtain⟨g10,Zv⟩:=R.ps hx 10 _ rfl;obtain⟨g2,xV⟩:=R.ps hx 2 _ rfl;obtain⟨z6,zf6⟩:=R.ps hy 6 _ rfl;have s1:=R.s RY 1 _ rfl;obtain⟨aU,cm,fO,aY,dx,aZ,ez,dz,eB⟩:=R.b3X R.aB.al R.aB.gs R.aB.ah;have o1:¬z*25+6=g*25+10:=oX
 have o2:¬g*25+10=z*25+6:=oX
 rw[hs]at g9;rw[hz]at s1;by_cases hp:y.bk=true
 ·rw[aF hp]at hm;simp only[cI]at hm;obtain⟨S3,h3,hm⟩:=hm
  cases hm;rw[hp]at z6;have H3:=ag h3;have nM:S3.gs[g]?=some x:=by obtain⟨q,b,_,rfl⟩:=mF h3;exact hx
  have oh:=ag nM;clear R hx RY hy hs hz hp h3 nM;unfold bR;go_enter func99,ntmps99;go_wp2_with fail
  go_quiet (fail);go_wp2_with (go_at_call 150;(refine(kv HR.out.aI H3).mono ?_;rintro e w2 ⟨⟨b,rfl⟩,A3⟩;have R3:=A3.bj;have p9:=R3.g oh 9 _ rfl;have fp9:=R3.frozen R3.aB.gs (g*25+9);have p2:=R3.g oh 2 _ rfl;have wW:=R3.frozen R3.aB.gs (g*25+2);have vC:=ag A3;clear A3 R3));refine bodyPost_ret (results_none rfl _ _ _) rfl ?_;have A4:=vC.out.g oh {x with br:= -1} (q:=9) (v:=I (-1));have A5:=A4.g (az oh) {x with br:= -1,ae:=lost} (q:=2) (v:=I lost);rw[aA]at A5;exact⟨rfl,A5⟩
 ·rw[aE hp]at hm;have vT:y.bk=false:=by simpa using hp
  rw[vT]at z6;simp only[cI]at hm;obtain⟨S4,h4,hm⟩:=hm;obtain⟨x4,vB,rfl⟩:=Nb hm;have A1:=HR.out.g hy {y with bk:=true} (q:=6) (v:=B true);have eE:(S.ay z {y with bk:=true}).gs[g]?=some x:=by rw[Cw mh];exact hx
  have A2:=A1.g eE {x with t:=S.av} (q:=10) (v:=I S.av);have HA:=ag A2;obtain⟨H4,ux⟩:=dA h4 vB;clear R hx RY hy hs hz hp vT h4 vB hm A1 A2 eE;unfold bR;go_enter func99,ntmps99;go_wp2_with fail
  go_quiet (fail);go_wp2_with (go_at_call 151;refine(Kh HA.out.aI H4).mono ?_;rintro e w3 ⟨rfl,A4⟩;have R4:=A4.bj;have p2:=R4.g ux 2 _ rfl;have wW:=R4.frozen R4.aB.gs (g*25+2);have A5:=A4.g ux {x4 with ae:=Eh} (q:=2) (v:=I Eh);have vV:=ag A5;clear A4 A5 R4);go_end0;exact⟨rfl,vV⟩
theorem Fg{w2 W3 w3:World}{g gg cap:Nat}{z:Int}{x:bI}{v:Value}{o:Obj}{S2:Wd}(A:At af F m0 w0 m w2 S2)(hx:S2.gs[g]?=some x)(hW:W3=(w2.alloc o).drew)(jz:v.ownBlock=m.aV (.wakes g))(ho:w3.ownsRow af 3 1 (.slice (some ⟨gg,0,none⟩) (x.wakes.length+1) cap) (x.wakes.length+1) (x.wakes.map I++[I z]))(hg:W3.grownBy w3 v.ownBlock)(hw:v.ownBlock=some gg∨W3.heap.size≤gg):To af F m0 w0 (S2.ay g {x with wakes:=x.wakes++[z],br:= -1}) ((w3.setCell ⟨F.gs,g*25+23,none⟩ (.slice (some ⟨gg,0,none⟩) (x.wakes.length+1) cap)).setCell ⟨F.gs,g*25+9,none⟩ (I (-1))):=by
 subst hW;rw[jz]at hg hw;have A3:=(A.alloc o).drew;have hl:(x.wakes++[z]).length=x.wakes.length+1:=sX
 have hm:(x.wakes++[z]).map I=x.wakes.map I++[I z]:=sX
 have A4:=A3.EC (j:=g) (x:=x) (l:=x.wakes++[z]) (g:=gg) (c:=cap) hx hg (by rw[hl,hm];exact ho) hw;have A5:=A4.g (az hx) {x with wakes:=x.wakes++[z],br:= -1} (q:=9) (v:=I (-1));rw[aA,hl]at A5;exact⟨_,A5⟩
theorem yT(R:bz af F w m S)(g s:Nat)(done:Bool)(S':Wd)(hm:Mach.serve S g s done=some S'):Calls prog 152 #[bR F,I g,I s,.bool done] w (ee (To af F m w S')):=by
 unfold Mach.serve at hm;simp only[bW,cI]at hm;obtain⟨x,hx,sd,hs,z,hz,y,hy,hm⟩:=hm;have hz:=du hz;by_cases mh:z=g∨1000000≤x.wakes.length
 ·rw[aF mh]at hm;cases hm
 rw[aE mh]at hm
 cases hm;have Zw:z≠g:=fun e=>mh (.inl e)
 have eM:=cA hx;have Ay:z<S.gs.length:=cA hy;have mj:s<S.ah.length:=cA hs;obtain⟨i0,hi,fV,gF,gG⟩:=info_parts lC;have c3:=R.eu;have c9:=R.ed;have s1:=R.s hs 1 _ rfl;obtain⟨s6,sf6⟩:=R.ssX hs 6 _ rfl;obtain⟨g9,Rz⟩:=R.ps hx 9 _ rfl;obtain⟨g23,V4⟩:=R.ps hx 23 _ rfl;obtain⟨z7,zf7⟩:=R.ps hy 7 _ rfl;obtain⟨aU,cm,fO,aY,dx,aZ,ez,dz,eB⟩:=R.b3X R.aB.al R.aB.gs R.aB.ah;obtain⟨a,c,hh⟩:=R.shape (r:=.wakes g) (n:=x.wakes.length) bm7;rw[hh]at g23;have V5:x.wakes.length<1000001:=by have:=Nat.lt_of_not_le (fun h=>mh (.inr h));omega
 have A1:=(At.refl R).s hs {sd with done:=done} (q:=6) (v:=B done) oX rfl;have A2:=A1.g (x:=y) hy {y with aN:=s} (q:=7) (v:=I s);have kt:((S.cJ s {sd with done:=done}).ay z {y with aN:=s}).gs[g]?=some x:=by rw[Cw Zw];exact hx
 rw[hz]at s1 A2 kt ⊢;have tm:=ag kt;have nx:=ag A2;have o1:¬z*25+7=g*25+9:=oX
 have o2:¬z*25+7=g*25+23:=oX
 clear R hx hs hy hz A1 A2 kt hh mh Zw;unfold bR;go_enter func152,ntmps152;go_wp2;obtain⟨w2,nt,A2⟩:∃w2,w2=_∧At af F m w m w2 _:=⟨_,rfl,nx⟩;rw[←nt];clear nt nx c3 c9 s1 s6 g9 g23 z7 sf6 Rz V4 zf7 aU cm fO o1 o2;have R2:=A2.bj;have kt:=tm.out;have c3:=R2.eu;obtain⟨g9,Rz⟩:=R2.ps kt 9 _ rfl;obtain⟨g23,V4⟩:=R2.ps kt 23 _ rfl;have aU:=R2.lt R2.aB.al;have cm:=R2.lt R2.aB.gs;have aY:=R2.ne R2.aB.al R2.aB.gs;have aZ:=aY.symm;obtain⟨a,c,hh⟩:=R2.shape (r:=.wakes g) (n:=x.wakes.length) (by simp[aj,kt]);rw[hh]at g23;have hown:=R2.owns (r:=.wakes g) (p:=(3,1)) rfl dX (n:=x.wakes.length) (by simp[aj,kt]);have jM:aj m ((S.cJ s {sd with g:=z,done:=done}).ay z {y with aN:=s}) (.wakes g)=x.wakes.map I:=by simp only[aj,kt]
 rw[jM,hh]at hown;have jz:(Value.slice a x.wakes.length c).ownBlock=m.aV (.wakes g):=by rw[←hh,Mem.mM]
 have Kc:=ag jz;have nv:=ag hown;have hbase:=R2.eS;have oN:=R2.jv (r:=.wakes g) R2.aB.al sX;have hng:=R2.jv (r:=.wakes g) R2.aB.gs sX;rw[←jz]at oN hng;have E8:=ag oN;have HNG:=ag hng;have nx:=ag A2;have cP:S.gs.length=((S.cJ s {sd with g:=z,done:=done}).ay z {y with aN:=s}).gs.length:=by simp[Wd.ay,Wd.cJ]
 rw[←cP]at c3;clear R2 kt hh hown jM jz oN hng A2 cP;have Np:=ag (fun(ops:Array Oper) (o:Oper) (ac:Act) (K:Act→World→Prop) (Q:Exit→Act→World→Prop) (E:Prop) (W3:World)=>jN (P:=prog) (ops:=ops) (o:=o) (a:=ac) (K:=K) (Q:=Q) (E:=E) (s:=.tmp 45) (x:=.tmp 47) (t:=28) (ht:=underlying28) (hi:=hi) (hz:=fV) (hsize:=gF) (hby:=gG) (hzs:=rfl) (hsz:=Nat.one_pos) (hbb:=vJ) (w2:=w2) (W3:=W3) (us:=#[I z]) (hus:=rfl) (h1:=aI8 z) (v:=.slice a x.wakes.length c) (n:=x.wakes.length) (xs:=x.wakes.map I) (hown:=nv.out) (hn:=V5) (hbase:=hbase));go_region_law (refine Np _ _ _ _ _ _ _ rfl rfl rfl rfl rfl ?_;intro gg cap w3 ah8 bX bE;have c3p:=fW (o:=.cells #[I z] 3) bX c3 rfl E8;have g9p:=fW (o:=.cells #[I z] 3) bX g9 rfl HNG;have ay6:=fW (o:=.cells #[I z] 3) bX g23 rfl HNG;have ay7:=fN (o:=.cells #[I z] 3) bX Rz cm rfl HNG;have aw7:=fN (o:=.cells #[I z] 3) bX V4 cm rfl HNG;obtain⟨Iq,Ns,SH⟩:=ij ah8 bX bE;clear ah8 bX bE)
 all_goals
  go_wp2;go_end0;exact⟨rfl,Fg nx tm rfl Kc Iq Ns SH⟩
end
end Go.Proofs.YtadifmnmfnihdaaGreat
