import Derived.Test.YtadifmnmfnihdaaGreatA17
set_option linter.all false
set_option maxRecDepth 100000
set_option maxHeartbeats 40000000
namespace Go.Proofs.YtadifmnmfnihdaaGreat
open Go.RowKit Mach Go.Proofs.Tryz
section
variable{af:Nat}{F:Fx}{w w0 w':World}{m m0 m':Mem}{S S':Wd}{L:List (Nat×Obj)}
theorem Qz(A:At af F m0 w0 m w S){g:Nat}{S':Wd}(hm:yo S g=some S'):Calls prog 168 #[bR F,I g] w (ee fun w'=>∃m',At af F m0 w0 m' w' S'):=
 (PB A.bj g S' hm).mono fun e w' ⟨h1,m',h2⟩=>⟨h1,m',A.cont h2⟩
theorem TR(R:bz af F w m S)(g:Nat)(x:bI)(hx:S.gs[g]?=some x)(ch:Int)(bO:eX ch){a b:Int}(h1:S.aw.first (2*ch-2)=(a,false))(h2:S.aw.first (2*ch-1)=(b,false)):Calls prog 110 #[bR F,I g,I ch] w (ee fun w'=>To af F m w (S.ay g {x with ae:=16}) w'):=by
 have eM:=cA hx;have c3:=R.eu;have c8:=R.dR;have c9:=R.ed;obtain⟨g2,xV⟩:=R.ef hx 2 _ rfl;obtain⟨g9,Rz⟩:=R.ef hx 9 _ rfl;have aU:=R.lt R.aB.al;have cm:=R.lt R.aB.gs;have fO:=R.lt R.aB.ah;have aY:=R.ne R.aB.al R.aB.gs;have dx:=R.ne R.aB.al R.aB.ah;have aZ:=R.ne R.aB.gs R.aB.al;have ez:=R.ne R.aB.gs R.aB.ah;have dz:=R.ne R.aB.ah R.aB.al;have eB:=R.ne R.aB.ah R.aB.gs;have A0:=At.refl R;have HX:=ag hx;have HF:=ag (fun k=>nk R k);have H1:=ag h1;have H2:=ag h2;have HA:=ag (A0.g HX.out {x with ae:=16} (q:=2) (v:=I 16));clear R hx A0 h1 h2;unfold bR;go_enter func110,ntmps110;go_wp2_with (first|(go_at_call 149;refine(HF.out _).mono ?_;rintro e w1 ⟨he,rfl⟩;rw[H1.out]at he;subst he)|(go_at_call 149;refine(HF.out _).mono ?_;rintro e w1 ⟨he,rfl⟩;rw[H2.out]at he;subst he));refine bodyPost_ret (results_none rfl _ _ _) rfl ?_;exact⟨rfl,m,HA.out.aI⟩
theorem KL(R:bz af F w m S)(g:Nat)(x:bI)(hx:S.gs[g]?=some x)(ch:Int)(bO:eX ch){s:Nat}{sd:gn}(h1:S.aw.first (2*ch-2)=((s:Int),true)∨∃a,S.aw.first (2*ch-2)=(a,false)∧S.aw.first (2*ch-1)=((s:Int),true))(eo:S.ah[s]?=some sd)(hc:0≤sd.case):Calls prog 110 #[bR F,I g,I ch] w (ee fun w'=>To af F m w (S.ay g {x with br:=s,ae:=23}) w'):=by
 rcases h1 with h1|⟨a,h1,h2⟩
 all_goals
  have eM:=cA hx;have c3:=R.eu;have c8:=R.dR;have c9:=R.ed;obtain⟨g2,xV⟩:=R.ef hx 2 _ rfl;obtain⟨g9,Rz⟩:=R.ef hx 9 _ rfl;have aU:=R.lt R.aB.al;have cm:=R.lt R.aB.gs;have fO:=R.lt R.aB.ah;have aY:=R.ne R.aB.al R.aB.gs;have dx:=R.ne R.aB.al R.aB.ah;have aZ:=R.ne R.aB.gs R.aB.al;have ez:=R.ne R.aB.gs R.aB.ah;have dz:=R.ne R.aB.ah R.aB.al;have eB:=R.ne R.aB.ah R.aB.gs;have A0:=At.refl R;have HX:=ag hx;have HF:=ag (fun k=>nk R k);have H1:=ag h1;try have H2:=ag h2
  have mj:s<S.ah.length:=cA eo;have s3:=R.s eo 3 _ rfl;have B1:=A0.g HX.out {x with br:=s} (q:=9) (v:=I s);have B2:=B1.g (az HX.out) {x with br:=s,ae:=23} (q:=2) (v:=I 23);rw[aA]at B2;have HA:=ag B2;clear B1 B2;clear R hx A0 eo h1;try clear h2
  unfold bR;go_enter func110,ntmps110;go_wp2_with (first|(go_at_call 149;refine(HF.out _).mono ?_;rintro e w1 ⟨he,rfl⟩;rw[H1.out]at he;subst he)|(go_at_call 149;refine(HF.out _).mono ?_;rintro e w1 ⟨he,rfl⟩;rw[H2.out]at he;subst he));go_end0;exact⟨rfl,m,HA.out.aI⟩
theorem KM(R:bz af F w m S)(g:Nat)(x:bI)(hx:S.gs[g]?=some x)(ch:Int)(bO:eX ch){s:Nat}{sd:gn}(h1:S.aw.first (2*ch-2)=((s:Int),true)∨∃a,S.aw.first (2*ch-2)=(a,false)∧S.aw.first (2*ch-1)=((s:Int),true))(eo:S.ah[s]?=some sd)(hc:sd.case= -1)(S':Wd)(hm:yo (S.ay g {x with br:=s}) g=some S'):Calls prog 110 #[bR F,I g,I ch] w (ee (To af F m w S')):=by
 rcases h1 with h1|⟨a,h1,h2⟩
 all_goals
  have eM:=cA hx;have c3:=R.eu;have c8:=R.dR;have c9:=R.ed;obtain⟨g2,xV⟩:=R.ef hx 2 _ rfl;obtain⟨g9,Rz⟩:=R.ef hx 9 _ rfl;have aU:=R.lt R.aB.al;have cm:=R.lt R.aB.gs;have fO:=R.lt R.aB.ah;have aY:=R.ne R.aB.al R.aB.gs;have dx:=R.ne R.aB.al R.aB.ah;have aZ:=R.ne R.aB.gs R.aB.al;have ez:=R.ne R.aB.gs R.aB.ah;have dz:=R.ne R.aB.ah R.aB.al;have eB:=R.ne R.aB.ah R.aB.gs;have A0:=At.refl R;have HX:=ag hx;have HF:=ag (fun k=>nk R k);have H1:=ag h1;try have H2:=ag h2
  have mj:s<S.ah.length:=cA eo;have s3:=R.s eo 3 _ rfl;have B1:=A0.g HX.out {x with br:=s} (q:=9) (v:=I s);have HA:=ag B1;have HM:=ag hm;rw[hc]at s3;clear B1 hm;clear R hx A0 eo hc h1;try clear h2
  unfold bR;go_enter func110,ntmps110;go_wp2_with (first|(go_at_call 149;refine(HF.out _).mono ?_;rintro e w1 ⟨he,rfl⟩;rw[H1.out]at he;subst he)|(go_at_call 149;refine(HF.out _).mono ?_;rintro e w1 ⟨he,rfl⟩;rw[H2.out]at he;subst he)|(go_at_call 168;refine(Qz (af:=af) (F:=F) (m0:=m) (w0:=w) (m:=m) ?_ HM.out).mono ?_;exact HA.out.aI;rintro e w3 ⟨rfl,mN,A3⟩;have HC:=ag A3;clear A3));go_end0;exact⟨rfl,mN,HC.out⟩
theorem KN(R:bz af F w m S)(g:Nat)(x:bI)(hx:S.gs[g]?=some x)(ch:Int)(bO:eX ch){s:Nat}{sd:gn}(h1:S.aw.first (2*ch-2)=((s:Int),true)∨∃a,S.aw.first (2*ch-2)=(a,false)∧S.aw.first (2*ch-1)=((s:Int),true))(eo:S.ah[s]?=some sd)(hc:sd.case< -1):Calls prog 110 #[bR F,I g,I ch] w (ee fun w'=>To af F m w (S.ay g {x with br:=s}) w'):=by
 rcases h1 with h1|⟨a,h1,h2⟩
 all_goals
  have eM:=cA hx;have c3:=R.eu;have c8:=R.dR;have c9:=R.ed;obtain⟨g2,xV⟩:=R.ef hx 2 _ rfl;obtain⟨g9,Rz⟩:=R.ef hx 9 _ rfl;have aU:=R.lt R.aB.al;have cm:=R.lt R.aB.gs;have fO:=R.lt R.aB.ah;have aY:=R.ne R.aB.al R.aB.gs;have dx:=R.ne R.aB.al R.aB.ah;have aZ:=R.ne R.aB.gs R.aB.al;have ez:=R.ne R.aB.gs R.aB.ah;have dz:=R.ne R.aB.ah R.aB.al;have eB:=R.ne R.aB.ah R.aB.gs;have A0:=At.refl R;have HX:=ag hx;have HF:=ag (fun k=>nk R k);have H1:=ag h1;try have H2:=ag h2
  have mj:s<S.ah.length:=cA eo;have s3:=R.s eo 3 _ rfl;have B1:=A0.g HX.out {x with br:=s} (q:=9) (v:=I s);have HA:=ag B1;have xz:(sd.case== -1)=false:=by simp;omega
  have Ws:decide (0≤sd.case)=false:=by simp;omega
  clear B1;clear R hx A0 eo h1;try clear h2
  unfold bR;go_enter func110,ntmps110;go_wp2_with (first|(go_at_call 149;refine(HF.out _).mono ?_;rintro e w1 ⟨he,rfl⟩;rw[H1.out]at he;subst he)|(go_at_call 149;refine(HF.out _).mono ?_;rintro e w1 ⟨he,rfl⟩;rw[H2.out]at he;subst he));go_end0;exact⟨rfl,m,HA.out.aI⟩
theorem Jr(R:bz af F w m S)(g:Nat)(ch:Int)(bO:eX ch)(S':Wd)(hm:qt S g ch=some S'):Calls prog 110 #[.pointer (some ⟨F.al,0,none⟩),I g,I ch] w (ee (To af F m w S')):=by
 unfold qt sK at hm;simp only[bW,cI]at hm;obtain⟨x,hx,hm⟩:=hm
 cases h1:(S.aw.first (2*ch-2)).2 with
 |true=>
  simp only[h1,dt,m8,dF,cI]at hm;obtain⟨s,hs,sd,eo,hm⟩:=hm;have hs:=du hs;have h1:S.aw.first (2*ch-2)=((s:Int),true):=Prod.ext hs h1;by_cases hc:0≤sd.case
  ·rw[aF hc]at hm
   cases hm;exact KL R g x hx ch bO (.inl h1) eo hc
  rw[aE hc]at hm;by_cases xz:sd.case= -1
  ·rw[aF xz]at hm;exact KM R g x hx ch bO (.inl h1) eo xz _ hm
  rw[aE xz]at hm
  cases hm;exact KN R g x hx ch bO (.inl h1) eo (by omega)
 |false=>
  simp only[h1,nW,dF]at hm
  cases h2:(S.aw.first (2*ch-1)).2 with
  |false=>
   simp only[h2,dt]at hm;obtain⟨x2,kt,rfl⟩:=dr hm;rw[hx]at kt
   cases kt;exact TR R g x hx ch bO (Prod.ext rfl h1) (Prod.ext rfl h2)
  |true=>
   simp only[h2,m8,dF,cI]at hm;obtain⟨s,hs,sd,eo,hm⟩:=hm;have hs:=du hs;have h2:S.aw.first (2*ch-1)=((s:Int),true):=Prod.ext hs h2;by_cases hc:0≤sd.case
   ·rw[aF hc]at hm
    cases hm;exact KL R g x hx ch bO (.inr ⟨_,Prod.ext rfl h1,h2⟩) eo hc
   rw[aE hc]at hm;by_cases xz:sd.case= -1
   ·rw[aF xz]at hm;exact KM R g x hx ch bO (.inr ⟨_,Prod.ext rfl h1,h2⟩) eo xz _ hm
   rw[aE xz]at hm
   cases hm;exact KN R g x hx ch bO (.inr ⟨_,Prod.ext rfl h1,h2⟩) eo (by omega)
theorem Bn(R:bz af F w m S)(g:Nat)(S':Wd)(hm:ly S g=some S'):Calls prog 111 #[bR F,I g] w (ee (To af F m w S')):=by
 have HR:=ag (At.refl R);have c3:=R.eu;have c8:=R.dR;have c9:=R.ed;unfold ly at hm;simp only[bW,cI]at hm;obtain⟨x,hx,s,hs,sd,eo,z,hz,y,hy,hm⟩:=hm;have hs:=du hs;have hz:=du hz;by_cases mh:z=g
 ·rw[aF mh]at hm;cases hm
 rw[aE mh]at hm;have eM:=cA hx;have Ay:z<S.gs.length:=cA hy;have mj:s<S.ah.length:=cA eo;obtain⟨g9,Rz⟩:=R.ef hx 9 _ rfl;obtain⟨g2,xV⟩:=R.ef hx 2 _ rfl;obtain⟨z6,zf6⟩:=R.ef hy 6 _ rfl;have s1:=R.s eo 1 _ rfl;have aU:=R.lt R.aB.al;have cm:=R.lt R.aB.gs;have fO:=R.lt R.aB.ah;have aY:=R.ne R.aB.al R.aB.gs;have dx:=R.ne R.aB.al R.aB.ah;have aZ:=R.ne R.aB.gs R.aB.al;have ez:=R.ne R.aB.gs R.aB.ah;have dz:=R.ne R.aB.ah R.aB.al;have eB:=R.ne R.aB.ah R.aB.gs;rw[hs]at g9;rw[hz]at s1;by_cases hp:y.bk=true
 ·rw[aF hp]at hm;simp only[cI]at hm;obtain⟨S3,h3,hm⟩:=hm
  cases hm;rw[hp]at z6;have H3:=ag h3;have nM:S3.gs[g]?=some x:=by obtain⟨q,b,_,rfl⟩:=mF h3;exact hx
  have oh:=ag nM;clear R hx eo hy hs hz hp h3 nM;unfold bR;go_enter func111,ntmps111;go_wp2_with fail
  go_quiet (fail);go_wp2_with (go_at_call 150;(refine(kv (af:=af) (F:=F) (w0:=w) (m0:=m) (m:=m) ?_ H3.out).mono ?_;exact HR.out.aI;rintro e w2 ⟨⟨b,rfl⟩,A3⟩;have R3:=A3.bj;have p9:=R3.g oh.out 9 _ rfl;have fp9:=R3.frozen R3.aB.gs (g*25+9);have p2:=R3.g oh.out 2 _ rfl;have wW:=R3.frozen R3.aB.gs (g*25+2);have vC:=ag A3;clear A3 R3));go_end0;have A4:=vC.out.g oh.out {x with br:= -1} (q:=9) (v:=I (-1));have A5:=A4.g (az oh.out) {x with br:= -1,ae:=22} (q:=2) (v:=I 22);rw[aA]at A5;exact⟨rfl,m,A5⟩
 ·rw[aE hp]at hm;have vT:y.bk=false:=by simpa using hp
  rw[vT]at z6;simp only[cI]at hm;obtain⟨S4,h4,hm⟩:=hm;obtain⟨x4,vB,rfl⟩:=dr hm;have A1:=HR.out.g hy {y with bk:=true} (q:=6) (v:=B true);have HA:=ag A1;obtain⟨H4,ux⟩:=dA h4 vB;clear R hx eo hy hs hz hp vT h4 vB hm A1;unfold bR;go_enter func111,ntmps111;go_wp2_with fail
  go_quiet (fail);go_wp2_with (go_at_call 168;refine(Qz (af:=af) (F:=F) (w0:=w) (m0:=m) (m:=m) ?_ H4.out).mono ?_;exact HA.out.aI;rintro e w3 ⟨rfl,mN,A4⟩;have R4:=A4.bj;have p2:=R4.g ux.out 2 _ rfl;have wW:=R4.frozen R4.aB.gs (g*25+2);have A5:=A4.g ux.out {x4 with ae:=22} (q:=2) (v:=I 22);have vV:=ag A5;clear A4 A5 R4);go_end0;exact⟨rfl,mN,vV.out⟩
theorem vq(R:bz af F w m S)(g:Nat)(x:bI)(hx:S.gs[g]?=some x)(s:Nat)(hs:x.aN=s)(sd:gn)(eo:S.ah[s]?=some sd)(rr:nP)(hh:(sd.done=true∧sd.cF=true∧rr={aJ:=1,case:=sd.case,ok:=true})∨(sd.done=true∧sd.cF=false∧rr={aJ:=1,case:=sd.case,ok:=true,v:=sd.v})∨(sd.done=false∧sd.cF=true∧rr={aJ:=3,case:=sd.case})∨(sd.done=false∧sd.cF=false∧rr={aJ:=1,case:=sd.case})):Calls prog 119 #[bR F,I g] w (ee fun w'=>At af F m w m w' (S.ay g {x with res:=rr,aN:= -1,k:=0,ae:=31})):=by
 have eM:=cA hx;have mj:s<S.ah.length:=cA eo;have c3:=R.eu;have c9:=R.ed;have aU:=R.lt R.aB.al;have cm:=R.lt R.aB.gs;have fO:=R.lt R.aB.ah;have aY:=R.ne R.aB.al R.aB.gs;have dx:=R.ne R.aB.al R.aB.ah;have aZ:=R.ne R.aB.gs R.aB.al;have ez:=R.ne R.aB.gs R.aB.ah;have dz:=R.ne R.aB.ah R.aB.al;have eB:=R.ne R.aB.ah R.aB.gs;obtain⟨g2,xV⟩:=R.ef hx 2 _ rfl;obtain⟨g7,gf7⟩:=R.ef hx 7 _ rfl;obtain⟨g15,tT⟩:=R.ef hx 15 _ rfl;obtain⟨g16,tU⟩:=R.ef hx 16 _ rfl;obtain⟨g17,tV⟩:=R.ef hx 17 _ rfl;obtain⟨g18,tW⟩:=R.ef hx 18 _ rfl;obtain⟨g19,tX⟩:=R.ef hx 19 _ rfl;obtain⟨g24,E5⟩:=R.ef hx 24 _ rfl;have s0:=R.s0 eo;have s1:=R.s eo 1 _ rfl;have s2:=R.s eo 2 _ rfl;have s3:=R.s eo 3 _ rfl;have s4:=R.s eo 4 _ rfl;have s5:=R.s eo 5 _ rfl;have s6:=R.s eo 6 _ rfl;rw[hs]at g7;have A1:=(At.refl R).res hx rr;have A2:=A1.g (az hx) {x with res:=rr,aN:= -1} (q:=7) (v:=I (-1));rw[aA]at A2;have A3:=A2.g (az hx) {x with res:=rr,aN:= -1,k:=0} (q:=24) (v:=I 0);rw[aA]at A3;have A4:=A3.g (az hx) {x with res:=rr,aN:= -1,k:=0,ae:=31} (q:=2) (v:=I 31);rw[aA]at A4;have A5:=(A4.alloc (.cells #[B sd.cK,I sd.g,I sd.ch,I sd.case,B sd.cF,I sd.v,B sd.done] 105)).alloc (.cells #[I rr.aJ,I rr.case,I rr.v,B rr.ok,I rr.n] 44);clear A1 A2 A3 A4;rcases hh with⟨hd,Ar,rfl⟩|⟨hd,Ar,rfl⟩|⟨hd,Ar,rfl⟩|⟨hd,Ar,rfl⟩
 all_goals
  rw[hd,Ar]at A5;dsimp only at A5;rw[hd]at s6;rw[Ar]at s4;have HA:=ag A5;clear A5 R hx hs eo hd Ar;unfold bR;go_enter func119,ntmps119;go_wp2_with fail
  go_region
  all_goals
   go_wp2
   first
    |(go_end0
      refine⟨rfl,?_⟩
      try simp only[Nat.add_assoc,Nat.reduceAdd]
      exact HA.out.drew)
    |(go_region
      all_goals go_wp2
      go_end0
      refine⟨rfl,?_⟩
      try simp only[Nat.add_assoc,Nat.reduceAdd]
      exact HA.out.drew.drew)
theorem MJ(R:bz af F w m S)(g:Nat)(S':Wd)(hm:uF S g=some S'):Calls prog 119 #[.pointer (some ⟨F.al,0,none⟩),I g] w (ee fun w'=>At af F m w m w' S'):=by
 unfold uF at hm;simp only[bW,cI]at hm;obtain⟨x,hx,s,hs,sd,eo,hm⟩:=hm;have hs:=du hs
 cases hm
 cases hd:sd.done<;>cases Ar:sd.cF
 ·have h:=vq R g x hx s hs sd eo _ (.inr (.inr (.inr ⟨hd,Ar,rfl⟩)));simpa only[mK,hd,Ar,Bool.false_and,Bool.true_and,Bool.and_false,nW,dF,dt]using h
 ·have h:=vq R g x hx s hs sd eo _ (.inr (.inr (.inl ⟨hd,Ar,rfl⟩)));simpa only[mK,hd,Ar,Bool.false_and,Bool.true_and,Bool.and_false,nW,dF,dt]using h
 ·have h:=vq R g x hx s hs sd eo _ (.inr (.inl ⟨hd,Ar,rfl⟩));simpa only[mK,hd,Ar,Bool.false_and,Bool.true_and,Bool.and_false,nW,dF,dt]using h
 ·have h:=vq R g x hx s hs sd eo _ (.inl ⟨hd,Ar,rfl⟩);simpa only[mK,hd,Ar,Bool.false_and,Bool.true_and,Bool.and_false,nW,dF,dt]using h
end
end Go.Proofs.YtadifmnmfnihdaaGreat
namespace Go.Proofs.YtadifmnmfnihdaaGreat.V
open Mach
def KO(a b c:List Int):Prop:=a.length≤8∧b.length≤8∧c.length≤8
def Sh(p:List bI×List Int):Prop:=(∀x∈p.1,KO x.aH x.aq x.bA)∧p.2.length≤1000
theorem Sh.set{l:List bI}{d:List Int}{g:Nat}{y:bI}(h:Sh (l,d))(hy:KO y.aH y.aq y.bA):Sh (l.set g y,d):=⟨fun x hx=>by
 rcases List.mem_or_eq_of_mem_set hx with h1|h1
 ·exact h.1 x h1
 ·rw[h1];exact hy,h.2⟩
theorem Sh.at{w:Wd}{g:Nat}{x:bI}(h:Sh (w.gs,w.draws))(hx:w.gs[g]?=some x):KO x.aH x.aq x.bA:=h.1 x (lf hx)
theorem mZ{a b c d:List Int}{i v:Int}(h:KO a b c)(hp:put c i v=some d):KO a b d:=by
 unfold put at hp;split at hp
 ·cases hp;exact⟨h.1,h.2.1,by rw[kI];exact h.2.2⟩
 ·cases hp
theorem TS{a b c:List Int}(h:KO a b c):KO a b []:=⟨h.1,h.2.1,by simp⟩
theorem tA{α:Type}{w:Wd}{a:α}{p:Wd×α}(h:some (w,a)=some p)(hs:Sh (w.gs,w.draws)):Sh (p.1.gs,p.1.draws):=by cases h;exact hs
theorem pO{w p:Wd}(h:some w=some p)(hs:Sh (w.gs,w.draws)):Sh (p.gs,p.draws):=by cases h;exact hs
theorem pP{β:Type}{P:β→Prop}{f:β→Wd}{p:Wd}(h:∃a,P a∧f a=p)(hs:∀a,Sh ((f a).gs,(f a).draws)):Sh (p.gs,p.draws):=by obtain⟨a,_,rfl⟩:=h;exact hs a
theorem pQ{α β:Type}{P:β→Prop}{f:β→Wd×α}{p:Wd×α}(h:∃a,P a∧some (f a)=some p)(hs:∀a,Sh ((f a).1.gs,(f a).1.draws)):Sh (p.1.gs,p.1.draws):=by obtain⟨a,_,h⟩:=h;cases h;exact hs a
theorem pR{β γ:Type}{P:β→Prop}{Q:β→γ→Prop}{f:β→γ→Wd}{p:Wd}(h:∃a,P a∧∃b,Q a b∧some (f a b)=some p)(hs:∀a b,Sh ((f a b).gs,(f a b).draws)):Sh (p.gs,p.draws):=by obtain⟨a,_,b,_,h⟩:=h;cases h;exact hs a b
theorem TT{a b c:List Int}{n:Nat}(h:KO a b c)(hn:n≤8):KO a b (List.replicate n (-1)):=⟨h.1,h.2.1,by simpa using hn⟩
theorem Sh.kA{w:Wd}{g:Nat}{x:bI}(h:Sh (w.gs,w.draws))(hx:w.gs[g]?=some x):KO x.aH x.aq []:=TS (h.at hx)
theorem Sh.pS{w:Wd}{g n:Nat}{x:bI}(hn:n≤8)(h:Sh (w.gs,w.draws))(hx:w.gs[g]?=some x):KO x.aH x.aq (List.replicate n (-1)):=TT (h.at hx) hn
theorem jE:KO [] [] []:=⟨by simp,by simp,by simp⟩
section
variable{w w':Wd}{g:Nat}
theorem KP{f:bI→bI}{r:Wd}(h:fL w g f=some r)(hs:Sh (w.gs,w.draws))(hf:∀x,KO x.aH x.aq x.bA→KO (f x).aH (f x).aq (f x).bA):Sh (r.gs,r.draws):=by
 unfold fL at h;rw[me]at h;obtain⟨x,hx,rfl⟩:=h;exact hs.set (hf x (hs.at hx))
theorem iD{p:Int}{r:Wd}(h:cD w g p=some r)(hs:Sh (w.gs,w.draws)):Sh (r.gs,r.draws):=KP h hs fun x hx=>hx
theorem zQ{f:bI→bI}{r:Wd}(h:fL w g f=some r)(hf:∀x,(f x).aH=x.aH∧(f x).aq=x.aq∧(f x).bA=x.bA)(hs:Sh (w.gs,w.draws)):Sh (r.gs,r.draws):=KP h hs fun x hx=>by
 obtain⟨h1,h2,h3⟩:=hf x;rw[h1,h2,h3];exact hx
theorem L0:(∀{w:Wd} {g:Nat} {s:Nat} {r:Wd},pair w g s=some r→Sh (w.gs,w.draws)→Sh (r.gs,r.draws))∧(∀{w:Wd} {g:Nat} {s:Nat} {d:Bool} {r:Wd},Mach.serve w g s d=some r→Sh (w.gs,w.draws)→Sh (r.gs,r.draws))∧(∀{w:Wd} {x:Int} {r:Wd},fZ w x=some r→Sh (w.gs,w.draws)→Sh (r.gs,r.draws))∧(∀{w:Wd} {k x:Int} {r:Wd},lh w k x=some r→Sh (w.gs,w.draws)→Sh (r.gs,r.draws))∧(∀{w:Wd} {g:Nat} {r:Wd},dk w g=some r→Sh (w.gs,w.draws)→Sh (r.gs,r.draws))∧(∀{w:Wd} {g:Nat} {l:Int} {r:Wd},lock w g l=some r→Sh (w.gs,w.draws)→Sh (r.gs,r.draws))∧(∀{w:Wd} {c v:Int} {r:Wd×Bool},lj w c v=some r→Sh (w.gs,w.draws)→Sh (r.1.gs,r.1.draws))∧(∀{w:Wd} {c:Int} {r:Wd×Int×Bool},getRing w c=some r→Sh (w.gs,w.draws)→Sh (r.1.gs,r.1.draws))∧(∀{w:Wd} {g:Nat} {c:Int} {r:Wd},ll w g c=some r→Sh (w.gs,w.draws)→Sh (r.gs,r.draws))∧(∀{w:Wd} {g:Nat} {c:Int} {r:Wd},jG w g c=some r→Sh (w.gs,w.draws)→Sh (r.gs,r.draws))∧(∀{w:Wd} {g:Nat} {c:Int} {r:Wd},jH w g c=some r→Sh (w.gs,w.draws)→Sh (r.gs,r.draws))∧(∀{w:Wd} {g:Nat} {r:Wd},lu w g=some r→Sh (w.gs,w.draws)→Sh (r.gs,r.draws))∧(∀{w:Wd} {c:Int} {s:Nat} {r:Wd×Int},ik w c s=some r→Sh (w.gs,w.draws)→Sh (r.1.gs,r.1.draws))∧(∀{w:Wd} {g:Nat} {c:Int} {r:Wd},lx w g c=some r→Sh (w.gs,w.draws)→Sh (r.gs,r.draws))∧(∀{w:Wd} {g:Nat} {c:Int} {r:Wd},jI w g c=some r→Sh (w.gs,w.draws)→Sh (r.gs,r.draws))∧(∀{w:Wd} {g:Nat} {c:Int} {r:Wd},uD w g c=some r→Sh (w.gs,w.draws)→Sh (r.gs,r.draws))∧(∀{w:Wd} {g:Nat} {p:Int} {r:Wd},jt w g p=some r→Sh (w.gs,w.draws)→Sh (r.gs,r.draws))∧(∀{w:Wd} {g:Nat} {r:Wd×Bool},ep w g=some r→Sh (w.gs,w.draws)→Sh (r.1.gs,r.1.draws))∧(∀{w:Wd} {g:Nat} {r:Wd},eH w g=some r→Sh (w.gs,w.draws)→Sh (r.gs,r.draws))∧(∀{w:Wd} {g:Nat} {q:nP} {r:Wd},te w g q=some r→Sh (w.gs,w.draws)→Sh (r.gs,r.draws))∧(∀{w:Wd} {g:Nat} {r:Wd},uF w g=some r→Sh (w.gs,w.draws)→Sh (r.gs,r.draws))∧(∀{w:Wd} {g:Nat} {r:Wd},jK w g=some r→Sh (w.gs,w.draws)→Sh (r.gs,r.draws)):=by
 refine⟨fun h hs=>?_,fun h hs=>?_,fun h hs=>?_,fun h hs=>?_,fun h hs=>?_,fun h hs=>?_,fun h hs=>?_,fun h hs=>?_,fun h hs=>?_,fun h hs=>?_,fun h hs=>?_,fun h hs=>?_,fun h hs=>?_,fun h hs=>?_,fun h hs=>?_,fun h hs=>?_,fun h hs=>?_,fun h hs=>?_,fun h hs=>?_,fun h hs=>?_,fun h hs=>?_,fun h hs=>?_⟩
 case' refine_1=>unfold pair at h
 case' refine_2=>unfold Mach.serve at h
 case' refine_3=>unfold fZ at h
 case' refine_4=>unfold lh at h
 case' refine_5=>unfold dk at h
 case' refine_6=>unfold lock at h
 case' refine_7=>unfold lj at h
 case' refine_8=>unfold getRing at h
 case' refine_9=>unfold ll at h
 case' refine_10=>unfold jG at h
 case' refine_11=>unfold jH at h
 case' refine_12=>unfold lu at h
 case' refine_13=>unfold ik at h
 case' refine_14=>unfold lx at h
 case' refine_15=>unfold jI at h
 case' refine_16=>unfold uD at h
 case' refine_17=>unfold jt at h
 case' refine_18=>unfold ep at h
 case' refine_19=>unfold eH at h
 case' refine_20=>unfold te at h
 case' refine_21=>unfold uF at h
 case' refine_22=>unfold jK at h
 all_goals
  repeat' first|(cases h;done)|(obtain⟨_,_,h⟩:=h)|(split at h)|(simp only[bW,cI,me,yes]at h)
 all_goals(try cases h)
 all_goals
  repeat' first|(exact hs)|(refine Sh.set ?_ ?_)|(refine Sh.at ?_ (by assumption))|(refine iD (by assumption) ?_)|(exact jE)|(refine Sh.kA ?_ (by assumption))|(refine mZ ?_ (by assumption))|(refine tA (by assumption) ?_)|(refine pO (by assumption) ?_)|(refine pP (by assumption) (fun a=>?_))|(refine pQ (by assumption) (fun a=>?_))|(refine pR (by assumption) (fun a b=>?_))|(refine Sh.pS (by assumption) ?_ (by assumption))|(refine zQ h (fun x=>⟨rfl,rfl,rfl⟩) ?_)|(dsimp only[Wd.ay,Wd.cJ,Wd.dZ,free,bu,eZ])|(split)
theorem L1:(∀{w:Wd} {g:Nat} {r:Wd×Bool},gH w g=some r→Sh (w.gs,w.draws)→Sh (r.1.gs,r.1.draws))∧(∀{w:Wd} {g:Nat} {k a b:Int} {r:Wd×Bool},take w g k a b=some r→Sh (w.gs,w.draws)→Sh (r.1.gs,r.1.draws))∧(∀{w:Wd} {g:Nat} {a b:Int} {r:Wd},rD w g a b=some r→Sh (w.gs,w.draws)→Sh (r.gs,r.draws))∧(∀{w:Wd} {g:Nat} {v:Int} {r:Wd},lp w g v=some r→Sh (w.gs,w.draws)→Sh (r.gs,r.draws))∧(∀{w:Wd} {g:Nat} {o:cu} {r:Wd},jY w g o=some r→Sh (w.gs,w.draws)→Sh (r.gs,r.draws))∧(∀{w:Wd} {g:Nat} {k:Int} {r:Wd},rF w g k=some r→Sh (w.gs,w.draws)→Sh (r.gs,r.draws))∧(∀{w:Wd} {g:Nat} {c:Int} {r:Wd},pZ w g c=some r→Sh (w.gs,w.draws)→Sh (r.gs,r.draws))∧(∀{w:Wd} {g:Nat} {o:cu} {r:Wd},jZ w g o=some r→Sh (w.gs,w.draws)→Sh (r.gs,r.draws))∧(∀{w:Wd} {g:Nat} {r:Wd},yo w g=some r→Sh (w.gs,w.draws)→Sh (r.gs,r.draws))∧(∀{w:Wd} {g:Nat} {r:Wd},iH w g=some r→Sh (w.gs,w.draws)→Sh (r.gs,r.draws))∧(∀{w:Wd} {g:Nat} {o:cu} {r:Wd},o.cases.length≤8→j3 w g o=some r→Sh (w.gs,w.draws)→Sh (r.gs,r.draws))∧(∀{w:Wd} {g:Nat} {o:cu} {r:Wd},jJ w g o=some r→Sh (w.gs,w.draws)→Sh (r.gs,r.draws))∧(∀{w:Wd} {g:Nat} {o:cu} {r:Wd},gK w g o=some r→Sh (w.gs,w.draws)→Sh (r.gs,r.draws))∧(∀{w:Wd} {g:Nat} {r:Wd},uG w g=some r→Sh (w.gs,w.draws)→Sh (r.gs,r.draws)):=by
 refine⟨fun h hs=>?_,fun h hs=>?_,fun h hs=>?_,fun h hs=>?_,fun h hs=>?_,fun h hs=>?_,fun h hs=>?_,fun h hs=>?_,fun h hs=>?_,fun h hs=>?_,fun ho h hs=>?_,fun h hs=>?_,fun h hs=>?_,fun h hs=>?_⟩
 case' refine_1=>unfold gH at h
 case' refine_2=>unfold take at h
 case' refine_3=>unfold rD at h
 case' refine_4=>unfold lp at h
 case' refine_5=>unfold jY at h
 case' refine_6=>unfold rF at h
 case' refine_7=>unfold pZ at h
 case' refine_8=>unfold jZ at h
 case' refine_9=>unfold yo at h
 case' refine_10=>unfold iH at h
 case' refine_11=>unfold j3 at h
 case' refine_12=>unfold jJ at h
 case' refine_13=>unfold gK at h
 case' refine_14=>unfold uG at h
 all_goals
  repeat' first|(cases h;done)|(obtain⟨_,_,h⟩:=h)|(split at h)|(simp only[bW,cI,me,yes]at h)
 all_goals(try cases h)
 all_goals
  repeat' first|(exact hs)|(refine Sh.set ?_ ?_)|(refine Sh.at ?_ (by assumption))|(refine L0.2.2.2.2.1 (by assumption) ?_)|(refine L0.2.2.2.2.2.1 (by assumption) ?_)|(refine iD (by assumption) ?_)|(refine L0.1 (by assumption) ?_)|(refine L0.2.2.1 (by assumption) ?_)|(refine L0.2.1 (by assumption) ?_)|(refine L0.2.2.2.2.2.2.1 (by assumption) ?_)|(refine L0.2.2.2.1 (by assumption) ?_)|(refine L0.2.2.2.2.2.2.2.2.2.2.2.2.1 (by assumption) ?_)|(refine L0.2.2.2.2.2.2.2.1 (by assumption) ?_)|(refine L0.2.2.2.2.2.2.2.2.2.2.2.2.2.2.2.2.2.1 (by assumption) ?_)|(refine L0.2.2.2.2.2.2.2.2.2.2.2.2.2.2.2.2.2.2.2.1 (by assumption) ?_)|(exact jE)|(refine Sh.kA ?_ (by assumption))|(refine mZ ?_ (by assumption))|(refine tA (by assumption) ?_)|(refine pO (by assumption) ?_)|(refine pP (by assumption) (fun a=>?_))|(refine pQ (by assumption) (fun a=>?_))|(refine pR (by assumption) (fun a b=>?_))|(refine Sh.pS (by assumption) ?_ (by assumption))|(refine zQ h (fun x=>⟨rfl,rfl,rfl⟩) ?_)|(dsimp only[Wd.ay,Wd.cJ,Wd.dZ,free,bu,eZ])|(split)
theorem L2:(∀{w:Wd} {g:Nat} {s:gn} {r:Wd},rE w g s=some r→Sh (w.gs,w.draws)→Sh (r.gs,r.draws))∧(∀{w:Wd} {g:Nat} {o:cu} {r:Wd},iE w g o=some r→Sh (w.gs,w.draws)→Sh (r.gs,r.draws))∧(∀{w:Wd} {g:Nat} {c:Int} {r:Wd},qt w g c=some r→Sh (w.gs,w.draws)→Sh (r.gs,r.draws))∧(∀{w:Wd} {g:Nat} {r:Wd},ly w g=some r→Sh (w.gs,w.draws)→Sh (r.gs,r.draws))∧(∀{w:Wd} {g:Nat} {c:Case} {r:Wd×nP×Bool×Bool},j4 w g c=some r→Sh (w.gs,w.draws)→Sh (r.1.gs,r.1.draws))∧(∀{w:Wd} {g:Nat} {c:Case} {r:Wd×nP×Bool×Bool},j5 w g c=some r→Sh (w.gs,w.draws)→Sh (r.1.gs,r.1.draws))∧(∀{w:Wd} {g:Nat} {o:cu} {r:Wd},ju w g o=some r→Sh (w.gs,w.draws)→Sh (r.gs,r.draws)):=by
 refine⟨fun h hs=>?_,fun h hs=>?_,fun h hs=>?_,fun h hs=>?_,fun h hs=>?_,fun h hs=>?_,fun h hs=>?_⟩
 case' refine_1=>unfold rE at h
 case' refine_2=>unfold iE at h
 case' refine_3=>unfold qt at h
 case' refine_4=>unfold ly at h
 case' refine_5=>unfold j4 at h
 case' refine_6=>unfold j5 at h
 case' refine_7=>unfold ju at h
 all_goals
  repeat' first|(cases h;done)|(obtain⟨_,_,h⟩:=h)|(split at h)|(simp only[bW,cI,me,yes]at h)
 all_goals(try cases h)
 all_goals
  repeat' first|(exact hs)|(refine Sh.set ?_ ?_)|(refine Sh.at ?_ (by assumption))|(refine L1.2.1 (by assumption) ?_)|(refine iD (by assumption) ?_)|(refine L1.2.2.1 (by assumption) ?_)|(refine L0.2.2.2.2.2.2.2.2.2.2.2.2.2.2.1 (by assumption) ?_)|(refine L1.2.2.2.2.2.2.1 (by assumption) ?_)|(refine L1.2.2.2.2.2.2.2.1 (by assumption) ?_)|(refine L1.2.2.2.2.2.2.2.2.1 (by assumption) ?_)|(refine L0.2.2.1 (by assumption) ?_)|(refine L0.2.2.2.2.2.2.1 (by assumption) ?_)|(refine L0.2.2.2.2.2.2.2.1 (by assumption) ?_)|(exact jE)|(refine Sh.kA ?_ (by assumption))|(refine mZ ?_ (by assumption))|(refine tA (by assumption) ?_)|(refine pO (by assumption) ?_)|(refine pP (by assumption) (fun a=>?_))|(refine pQ (by assumption) (fun a=>?_))|(refine pR (by assumption) (fun a b=>?_))|(refine Sh.pS (by assumption) ?_ (by assumption))|(dsimp only[Wd.ay,Wd.cJ,Wd.dZ,free,bu,eZ])|(split)
theorem L3:(∀{w:Wd} {g:Nat} {r:Wd×Bool},jq w g=some r→Sh (w.gs,w.draws)→Sh (r.1.gs,r.1.draws))∧(∀{w:Wd} {g:Nat} {c:Int} {r:Wd},j1 w g c=some r→Sh (w.gs,w.draws)→Sh (r.gs,r.draws))∧(∀{w:Wd} {g:Nat} {r:Wd×Bool},js w g=some r→Sh (w.gs,w.draws)→Sh (r.1.gs,r.1.draws))∧(∀{w:Wd} {g:Nat} {o:cu} {r:Wd},o.cases.length≤8→uE w g o=some r→Sh (w.gs,w.draws)→Sh (r.gs,r.draws)):=by
 refine⟨fun h hs=>?_,fun h hs=>?_,fun h hs=>?_,fun ho h hs=>?_⟩
 case' refine_1=>unfold jq at h
 case' refine_2=>unfold j1 at h
 case' refine_3=>unfold js at h
 case' refine_4=>unfold uE at h
 all_goals
  repeat' first|(cases h;done)|(obtain⟨_,_,h⟩:=h)|(split at h)|(simp only[bW,cI,me,yes]at h)
 all_goals(try cases h)
 all_goals
  repeat' first|(exact hs)|(refine Sh.set ?_ ?_)|(refine Sh.at ?_ (by assumption))|(refine iD (by assumption) ?_)|(refine L1.1 (by assumption) ?_)|(refine L1.2.1 (by assumption) ?_)|(refine L1.2.2.1 (by assumption) ?_)|(refine L2.1 (by assumption) ?_)|(refine L0.2.2.2.2.2.2.2.2.1 (by assumption) ?_)|(refine L0.2.2.2.2.2.2.2.2.2.1 (by assumption) ?_)|(refine L0.2.2.2.2.2.2.2.2.2.2.1 (by assumption) ?_)|(refine L1.2.2.2.1 (by assumption) ?_)|(refine L1.2.2.2.2.1 (by assumption) ?_)|(refine L0.2.2.2.2.2.2.2.2.2.2.2.1 (by assumption) ?_)|(refine L1.2.2.2.2.2.1 (by assumption) ?_)|(refine L0.2.2.2.2.2.2.2.2.2.2.2.2.2.2.2.1 (by assumption) ?_)|(refine L2.2.2.1 (by assumption) ?_)|(refine L2.2.2.2.1 (by assumption) ?_)|(refine L0.2.2.2.2.2.2.2.2.2.2.2.2.2.2.2.2.2.2.1 (by assumption) ?_)|(refine L0.2.2.2.2.2.2.2.2.2.2.2.2.2.2.2.2.2.2.2.1 (by assumption) ?_)|(refine L1.2.2.2.2.2.2.2.2.2.2.1 ho (by assumption) ?_)|(refine L2.2.2.2.2.1 (by assumption) ?_)|(refine L2.2.2.2.2.2.1 (by assumption) ?_)|(exact jE)|(refine Sh.kA ?_ (by assumption))|(refine mZ ?_ (by assumption))|(refine tA (by assumption) ?_)|(refine pO (by assumption) ?_)|(refine pP (by assumption) (fun a=>?_))|(refine pQ (by assumption) (fun a=>?_))|(refine pR (by assumption) (fun a b=>?_))|(refine Sh.pS (by assumption) ?_ (by assumption))|(dsimp only[Wd.ay,Wd.cJ,Wd.dZ,free,bu,eZ])|(split)
theorem L4:∀{w:Wd} {g:Nat} {r:Wd×Bool},jr w g=some r→Sh (w.gs,w.draws)→Sh (r.1.gs,r.1.draws):=by
 refine fun h hs=>?_
 unfold jr at h
 all_goals
  repeat' first|(cases h;done)|(obtain⟨_,_,h⟩:=h)|(split at h)|(simp only[bW,cI,me,yes]at h)
 all_goals(try cases h)
 all_goals
  repeat' first|(exact hs)|(refine Sh.set ?_ ?_)|(refine Sh.at ?_ (by assumption))|(refine L1.1 (by assumption) ?_)|(refine L0.2.2.2.2.2.2.2.2.2.2.2.2.2.1 (by assumption) ?_)|(refine L2.2.1 (by assumption) ?_)|(refine L3.2.1 (by assumption) ?_)|(exact jE)|(refine Sh.kA ?_ (by assumption))|(refine mZ ?_ (by assumption))|(refine tA (by assumption) ?_)|(refine pO (by assumption) ?_)|(refine pP (by assumption) (fun a=>?_))|(refine pQ (by assumption) (fun a=>?_))|(refine pR (by assumption) (fun a b=>?_))|(refine Sh.pS (by assumption) ?_ (by assumption))|(dsimp only[Wd.ay,Wd.cJ,Wd.dZ,free,bu,eZ])|(split)
theorem Gr{α β:Type}{f:α→Option β}:∀{l:List α} {r:List β},l.mapM f=some r→r.length=l.length
 | [],r,h=>by simp at h;subst h;rfl
 |a::l,r,h=>by rw[List.mapM_cons]at h;simp only[bW,cI,Option.pure_def,oZ]at h;obtain⟨b,_,bs,hb,rfl⟩:=h;rw[sV,sV,Gr hb]
theorem xl(x:Int):∀l:List Int,(ji x l).length=l.length+1
 | []=>rfl
 |y::l=>by
  unfold ji;split
  ·rfl
  ·rw[sV,xl x l];rfl
theorem qX:∀(l out:List Int),(l.foldl jL out).length≤out.length+l.length
 | [],out=>by simp
 |x::l,out=>by
  rw[List.foldl_cons];have h:=qX l (jL out x)
  have h2:(jL out x).length≤out.length+1:=by
   unfold jL;split
   ·omega
   ·split
    ·omega
    ·simp
  rw[sV];omega
theorem Gs(ids:List Int):(kf ids).length≤ids.length:=by
 unfold kf;have h:=qX (ids.foldr ji []) []
 have h2:(ids.foldr ji []).length=ids.length:=by
  induction ids with
  |nil=>rfl
  |cons x l ih=>rw[List.foldr_cons,xl,ih (qX _ _)];rfl
 simp at h;omega
theorem zT{o:cu}{ds:List Int}{cs:List (Int×Int)}(h:kr w o ds=some cs)(hd:(kB ds ds.length).length≤8):cs.length≤8:=by
 unfold kr at h;rw[me]at h;obtain⟨l,hl,rfl⟩:=h;have h1:=Gr hl;have h2:=List.length_filter_le (fun p:Int×Int=>cZ w p.2) l;omega
theorem Bo(ho:∀o,mf w g=some o→o.cases.length≤8){r:Wd×Bool}(h:hO w g=some r)(hs:Sh (w.gs,w.draws)):Sh (r.1.gs,r.1.draws):=by
 unfold hO at h;simp only[bW,cI,yes]at h;obtain⟨o,hoo,x,hx,h⟩:=h;by_cases c0:o.ai≠9
 ·rw[aF c0]at h
  cases h;exact hs
 rw[aE c0]at h;by_cases c1:x.ae=13∨x.ae=17
 ·rw[aF c1]at h;exact L1.1 h hs
 rw[aE c1]at h;by_cases c2:x.ae=24
 ·rw[aF c2]at h;obtain⟨w1,h1,rfl⟩:=me.1 h;exact L0.2.2.2.2.2.2.2.2.2.2.2.2.2.2.2.2.1 h1 hs
 rw[aE c2]at h;by_cases c3:x.ae=25
 ·rw[aF c3]at h;obtain⟨w1,h1,rfl⟩:=me.1 h;exact L3.2.2.2 (ho _ hoo) h1 hs
 rw[aE c3]at h;by_cases c4:x.ae=26
 ·rw[aF c4]at h;obtain⟨w1,h1,rfl⟩:=me.1 h;obtain⟨w2,h2,h3⟩:=cI.1 h1;exact L0.2.2.2.2.2.2.2.2.2.2.2.2.2.2.2.2.2.2.1 h3 (L1.2.2.1 h2 hs)
 rw[aE c4]at h;by_cases c5:x.ae=27
 ·rw[aF c5]at h;obtain⟨w1,h1,rfl⟩:=me.1 h;exact L1.2.2.2.2.2.2.2.2.2.2.2.1 h1 hs
 rw[aE c5]at h;by_cases c6:x.ae=28
 ·rw[aF c6]at h;obtain⟨w1,h1,rfl⟩:=me.1 h;exact L2.2.2.2.2.2.2 h1 hs
 rw[aE c6]at h;by_cases c7:x.ae=29
 ·rw[aF c7]at h;obtain⟨w1,h1,rfl⟩:=me.1 h;exact L1.2.2.2.2.2.2.2.2.2.2.2.2.1 h1 hs
 rw[aE c7]at h;by_cases c8:x.ae=30
 ·rw[aF c8]at h;obtain⟨w1,h1,rfl⟩:=me.1 h;exact L1.2.2.2.2.2.2.2.2.2.1 h1 hs
 rw[aE c8]at h;by_cases c9:x.ae=14
 ·rw[aF c9]at h;obtain⟨w1,h1,rfl⟩:=me.1 h;exact L0.2.2.2.2.2.2.2.2.2.2.2.2.2.2.2.2.2.2.2.2.1 h1 hs
 rw[aE c9]at h;by_cases Fq:x.ae=31
 ·rw[aF Fq]at h;obtain⟨w1,h1,rfl⟩:=me.1 h;exact L0.2.2.2.2.2.2.2.2.2.2.2.2.2.2.2.2.1 h1 hs
 rw[aE Fq]at h;by_cases c11:x.ae=32
 ·rw[aF c11]at h;obtain⟨w1,h1,rfl⟩:=me.1 h;exact L1.2.2.2.2.2.2.2.2.2.2.2.2.2 h1 hs
 rw[aE c11]at h;by_cases c12:x.ae=33
 ·rw[aF c12]at h;obtain⟨⟨w1,fin⟩,h1,h2⟩:=cI.1 h;have k:=L0.2.2.2.2.2.2.2.2.2.2.2.2.2.2.2.2.2.1 h1 hs
  cases fin
  ·cases h2;exact k
  ·obtain⟨w2,h3,rfl⟩:=me.1 h2;exact iD h3 k
 rw[aE c12]at h;by_cases V2:x.ae=34
 ·rw[aF V2]at h;obtain⟨w1,h1,rfl⟩:=me.1 h;exact L0.2.2.2.2.2.2.2.2.2.2.2.2.2.2.2.2.2.2.2.2.2 h1 hs
 rw[aE V2]at h
 cases h;exact hs
theorem L5:(∀{w:Wd} {g:Nat} {c:Int} {r:Wd},Nc w g c=some r→Sh (w.gs,w.draws)→Sh (r.gs,r.draws))∧(∀{w:Wd} {g:Nat} {r:Wd},never w g=some r→Sh (w.gs,w.draws)→Sh (r.gs,r.draws)):=by
 refine⟨fun h hs=>?_,fun h hs=>?_⟩
 case' refine_1=>unfold Nc at h
 case' refine_2=>unfold never at h
 all_goals
  repeat' first|(cases h;done)|(obtain⟨_,_,h⟩:=h)|(split at h)|(simp only[bW,cI,me,yes]at h)
 all_goals(try cases h)
 all_goals
  repeat' first|(exact hs)|(refine Sh.set ?_ ?_)|(refine Sh.at ?_ (by assumption))|(refine iD (by assumption) ?_)|(exact jE)|(refine Sh.kA ?_ (by assumption))|(refine mZ ?_ (by assumption))|(refine tA (by assumption) ?_)|(refine pO (by assumption) ?_)|(refine pP (by assumption) (fun a=>?_))|(refine pQ (by assumption) (fun a=>?_))|(refine pR (by assumption) (fun a b=>?_))|(refine Sh.pS (by assumption) ?_ (by assumption))|(refine zQ h (fun x=>⟨rfl,rfl,rfl⟩) ?_)|(dsimp only[Wd.ay,Wd.cJ,Wd.dZ,free,bu,eZ])|(split)
theorem zU{o:cu}(ho:o.cases.length≤8){r:Wd}(h:gM w g o=some r)(hs:Sh (w.gs,w.draws)):Sh (r.gs,r.draws):=by
 unfold gM at h;split at h
 ·cases h
 ·simp only[bW,cI]at h;obtain⟨cs,fa,x,hx,h⟩:=h;have hl:cs.length≤8:=zT fa (by rw[(qO _ _).length_eq,ko,List.length_range,sr];exact ho);have h0:Sh (w.gs.set g {x with aH:=cs.map (·.1),aq:=kf (cs.map (·.2))},w.draws):=hs.set ⟨by simpa using hl,jm (Gs _) (by rw[ko];exact hl),(hs.at hx).2.2⟩;split at h
  ·exact iD h h0
  ·split at h
   ·exact L5.1 h h0
   ·exact L5.2 h h0
theorem MP(ho:∀o,mf w g=some o→o.cases.length≤8){r:Wd}(h:jT w g=some r)(hs:Sh (w.gs,w.draws)):Sh (r.gs,r.draws):=by
 unfold jT at h
 repeat' first
  |(cases h;done)
  |(obtain⟨_,_,h⟩:=h)
  |(split at h)
  |(simp only[bW,cI,me,yes]at h)
 all_goals(try cases h)
 all_goals
  repeat' first
   |(exact hs)
   |(refine Sh.set ?_ ?_)
   |(refine Sh.at ?_ (by assumption))
   |(refine iD (by assumption) ?_)
   |(refine L5.1 (by assumption) ?_)
   |(refine L5.2 (by assumption) ?_)
   |(refine zU (ho _ (by assumption)) (by assumption) ?_)
   |(exact jE)
   |(refine Sh.kA ?_ (by assumption))
   |(refine mZ ?_ (by assumption))
   |(refine tA (by assumption) ?_)
   |(refine pO (by assumption) ?_)
   |(refine pP (by assumption) (fun a=>?_))
   |(refine pQ (by assumption) (fun a=>?_))
   |(refine pR (by assumption) (fun a b=>?_))
   |(refine Sh.pS (by assumption) ?_ (by assumption))
   |(dsimp only[Wd.ay,Wd.cJ,Wd.dZ,free,bu,eZ])
   |(split)
theorem L6:(∀{w:Wd} {n:Int} {r:Wd×nP},makeChan w n=some r→Sh (w.gs,w.draws)→Sh (r.1.gs,r.1.draws))∧(∀{w:Wd} {g:Nat} {r:Wd},mL w g=some r→Sh (w.gs,w.draws)→Sh (r.gs,r.draws)):=by
 refine⟨fun h hs=>?_,fun h hs=>?_⟩
 case' refine_1=>unfold makeChan at h
 case' refine_2=>unfold mL at h
 all_goals
  repeat' first|(cases h;done)|(obtain⟨_,_,h⟩:=h)|(split at h)|(simp only[bW,cI,me,yes]at h)
 all_goals(try cases h)
 all_goals
  repeat' first|(exact hs)|(refine Sh.set ?_ ?_)|(refine Sh.at ?_ (by assumption))|(exact jE)|(refine Sh.kA ?_ (by assumption))|(refine mZ ?_ (by assumption))|(refine tA (by assumption) ?_)|(refine pO (by assumption) ?_)|(refine pP (by assumption) (fun a=>?_))|(refine pQ (by assumption) (fun a=>?_))|(refine pR (by assumption) (fun a b=>?_))|(refine Sh.pS (by assumption) ?_ (by assumption))|(dsimp only[Wd.ay,Wd.cJ,Wd.dZ,free,bu,eZ])|(split)
theorem L7:∀{w:Wd} {g:Nat} {r:Wd},KZ w g=some r→Sh (w.gs,w.draws)→Sh (r.gs,r.draws):=by
 refine fun h hs=>?_
 unfold KZ at h
 all_goals
  repeat' first|(cases h;done)|(obtain⟨_,_,h⟩:=h)|(split at h)|(simp only[bW,cI,me,yes]at h)
 all_goals(try cases h)
 all_goals
  repeat' first|(exact hs)|(refine Sh.set ?_ ?_)|(refine Sh.at ?_ (by assumption))|(refine L6.1 (by assumption) ?_)|(exact jE)|(refine Sh.kA ?_ (by assumption))|(refine mZ ?_ (by assumption))|(refine tA (by assumption) ?_)|(refine pO (by assumption) ?_)|(refine pP (by assumption) (fun a=>?_))|(refine pQ (by assumption) (fun a=>?_))|(refine pR (by assumption) (fun a b=>?_))|(refine Sh.pS (by assumption) ?_ (by assumption))|(dsimp only[Wd.ay,Wd.cJ,Wd.dZ,free,bu,eZ])|(split)
theorem DY(ho:∀o,mf w g=some o→o.cases.length≤8){r:Wd×Bool}(h:gh w g=some r)(hs:Sh (w.gs,w.draws)):Sh (r.1.gs,r.1.draws):=by
 unfold gh at h
 repeat' first
  |(cases h;done)
  |(obtain⟨_,_,h⟩:=h)
  |(split at h)
  |(simp only[bW,cI,me,yes]at h)
 all_goals(try cases h)
 all_goals
  repeat' first
   |(exact hs)
   |(refine Sh.set ?_ ?_)
   |(refine Sh.at ?_ (by assumption))
   |(refine MP ho (by assumption) ?_)
   |(refine L7 (by assumption) ?_)
   |(refine L6.2 (by assumption) ?_)
   |(exact jE)
   |(refine Sh.kA ?_ (by assumption))
   |(refine mZ ?_ (by assumption))
   |(refine tA (by assumption) ?_)
   |(refine pO (by assumption) ?_)
   |(refine pP (by assumption) (fun a=>?_))
   |(refine pQ (by assumption) (fun a=>?_))
   |(refine pR (by assumption) (fun a b=>?_))
   |(refine Sh.pS (by assumption) ?_ (by assumption))
   |(dsimp only[Wd.ay,Wd.cJ,Wd.dZ,free,bu,eZ])
   |(split)
theorem Gt{r:Wd×Bool}(h:jq w g=some r)(hs:Sh (w.gs,w.draws)):Sh (r.1.gs,r.1.draws):=L3.1 h hs
theorem Gu{r:Wd×Bool}(h:jr w g=some r)(hs:Sh (w.gs,w.draws)):Sh (r.1.gs,r.1.draws):=L4 h hs
theorem Gv{r:Wd×Bool}(h:js w g=some r)(hs:Sh (w.gs,w.draws)):Sh (r.1.gs,r.1.draws):=L3.2.2.1 h hs
end
end Go.Proofs.YtadifmnmfnihdaaGreat.V
