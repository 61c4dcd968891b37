import Derived.Test.YtadifmnmfnihdaaGreatA06
import Derived.Test.YtadifmnmfnihdaaGreatA07
import Derived.Test.YtadifmnmfnihdaaGreatA12
set_option linter.all false
set_option maxRecDepth 100000
set_option maxHeartbeats 40000000
namespace Go.Proofs.YtadifmnmfnihdaaGreat.V
open Mach
section
variable{w w':Wd}{ls:List (List Nat)}{g:Nat}{x x':bI}{C:Nat}
theorem M.aq0(L:Loc C x)(hk:(aP x).ai=9)(hp:x.ae=29)(jg:x.k+1<x.aH.length):lH x {x with k:=x.k+1}∧Loc C {x with k:=x.k+1}∧∀c,aL {x with k:=x.k+1} c↔aL x c:=by
 have e:aP {x with k:=x.k+1}=aP x:=rfl;obtain⟨s1,s2,s3⟩:=L.oW hk (by omega) (by omega) (by omega) (by omega);have cP:=s1.Ei;have ja:=s1.ne;have fX:=s1.BD;have hpos:0<x.aq.length:=pd cP;have nT:0<x.aH.length:=pd ja;have kE:=s2.2.2 (by omega)
 have nL:gU C {x with k:=x.k+1}∧Ej {x with k:=x.k+1}∧nm {x with k:=x.k+1}:=by
  refine⟨s1.mk' rfl rfl rfl,?_,?_⟩
  ·refine⟨fun h=>?_,fun h=>?_,fun h=>?_⟩<;>simp only[hp]at h ⊢<;>omega
  ·obtain⟨a1,a2,a3,a4,a5,a6,a7⟩:=s3;clear fX cP ja s1 s2 L;constructor<;>simp only[hp,e]at*<;>grind
 have dJ:∀c,aL {x with k:=x.k+1} c↔aL x c:=by
  intro c;unfold aL;rw[e,aF hk,aF hk];have e1:bC x=x.aq.length:=by simp[bC,hp]
  have e2:bC {x with k:=x.k+1}=x.aq.length:=by simp[bC,hp]
  rw[e1,e2]
 have iw:cV (aP x) C {x with k:=x.k+1}↔cV (aP x) C x:=Iff.rfl;obtain⟨l1,l2,l3,l4,l5,l6,l7,l8,l9,kN,kO,kP,kQ,kR,mT,mU,kS,mV,kT,kY,mW,kU,kV,kW⟩:=L;clear l8 fX;refine⟨?_,?_,dJ⟩
 ·clear l1 l2 l3 l4 l5 l6 l7 l9 kN kO kP kQ kR kS kT kY kU kV kW nL dJ s1 s3;constructor<;>simp only[e,hp,aW,aT,bm,eV]at*<;>grind
 ·clear dJ s1 s3 s2;constructor<;>simp only[e,hp,aW,aT,bm,bG]at*<;>grind
theorem M.aq1(L:Loc C x)(hk:(aP x).ai=9)(hp:x.ae=29)(t:Int):lH x {x with bJ:=t,k:=x.aq.length,ae:=30}∧Loc C {x with bJ:=t,k:=x.aq.length,ae:=30}∧∀c,aL {x with bJ:=t,k:=x.aq.length,ae:=30} c↔aL x c:=by
 have e:aP {x with bJ:=t,k:=x.aq.length,ae:=30}=aP x:=rfl;obtain⟨s1,s2,s3⟩:=L.oW hk (by omega) (by omega) (by omega) (by omega);have cP:=s1.Ei;have ja:=s1.ne;have fX:=s1.BD;have hpos:0<x.aq.length:=pd cP;have nT:0<x.aH.length:=pd ja;have kE:=s2.2.2 (by omega);have Dj:=L.BE hk (by omega)
 have nL:gU C {x with bJ:=t,k:=x.aq.length,ae:=30}∧Ej {x with bJ:=t,k:=x.aq.length,ae:=30}∧nm {x with bJ:=t,k:=x.aq.length,ae:=30}:=by
  refine⟨s1.mk' rfl rfl rfl,?_,?_⟩
  ·refine⟨fun h=>?_,fun h=>?_,fun h=>?_⟩<;>simp only[hp]at h ⊢<;>omega
  ·obtain⟨a1,a2,a3,a4,a5,a6,a7⟩:=s3;clear fX cP ja s1 s2 L;constructor<;>simp only[hp,e]at*<;>grind
 have dJ:∀c,aL {x with bJ:=t,k:=x.aq.length,ae:=30} c↔aL x c:=by
  intro c;unfold aL;rw[e,aF hk,aF hk];have e1:bC x=x.aq.length:=by simp[bC,hp]
  have e2:bC {x with bJ:=t,k:=x.aq.length,ae:=30}=x.aq.length:=by simp[bC,hp]
  rw[e1,e2]
 have iw:cV (aP x) C {x with bJ:=t,k:=x.aq.length,ae:=30}↔cV (aP x) C x:=Iff.rfl;obtain⟨l1,l2,l3,l4,l5,l6,l7,l8,l9,kN,kO,kP,kQ,kR,mT,mU,kS,mV,kT,kY,mW,kU,kV,kW⟩:=L;clear l8 fX;refine⟨?_,?_,dJ⟩
 ·clear l1 l2 l3 l4 l5 l6 l7 l9 kN kO kP kQ kR kS kT kU kV kW nL dJ s1 s3;constructor<;>simp only[e,hp,aW,aT,bm,eV]at*<;>grind
 ·clear dJ s1 s3 s2;constructor<;>simp only[e,hp,aW,aT,bm,bG]at*<;>grind
theorem M.aq2(L:Loc C x)(hk:(aP x).ai=9)(hp:x.ae=32)(jg:x.k+1<x.aH.length):Loc C {x with k:=x.k+1}∧∀c,aL {x with k:=x.k+1} c↔aL x c:=by
 have e:aP {x with k:=x.k+1}=aP x:=rfl;obtain⟨s1,s2,s3⟩:=L.oW hk (by omega) (by omega) (by omega) (by omega);have cP:=s1.Ei;have ja:=s1.ne;have fX:=s1.BD;have hpos:0<x.aq.length:=pd cP;have nT:0<x.aH.length:=pd ja;have kE:=s2.2.2 (by omega)
 have nL:gU C {x with k:=x.k+1}∧Ej {x with k:=x.k+1}∧nm {x with k:=x.k+1}:=by
  refine⟨s1.mk' rfl rfl rfl,?_,?_⟩
  ·refine⟨fun h=>?_,fun h=>?_,fun h=>?_⟩<;>simp only[hp]at h ⊢<;>omega
  ·obtain⟨a1,a2,a3,a4,a5,a6,a7⟩:=s3;clear fX cP ja s1 s2 L;constructor<;>simp only[hp,e]at*<;>grind
 have dJ:∀c,aL {x with k:=x.k+1} c↔aL x c:=by
  intro c;unfold aL;rw[e,aF hk,aF hk];have e1:bC x=x.aq.length:=by simp[bC,hp]
  have e2:bC {x with k:=x.k+1}=x.aq.length:=by simp[bC,hp]
  rw[e1,e2]
 have iw:cV (aP x) C {x with k:=x.k+1}↔cV (aP x) C x:=Iff.rfl;obtain⟨l1,l2,l3,l4,l5,l6,l7,l8,l9,kN,kO,kP,kQ,kR,mT,mU,kS,mV,kT,kY,mW,kU,kV,kW⟩:=L;clear l8 fX;refine⟨?_,dJ⟩
 ·clear dJ s1 s3 s2;constructor<;>simp only[e,hp,aW,aT,bm,bG]at*<;>grind
theorem M.aq3(L:Loc C x)(hk:(aP x).ai=9)(hp:x.ae=32):Loc C {x with k:=x.aq.length,ae:=33}∧∀c,aL {x with k:=x.aq.length,ae:=33} c↔aL x c:=by
 have e:aP {x with k:=x.aq.length,ae:=33}=aP x:=rfl;obtain⟨s1,s2,s3⟩:=L.oW hk (by omega) (by omega) (by omega) (by omega);have cP:=s1.Ei;have ja:=s1.ne;have fX:=s1.BD;have hpos:0<x.aq.length:=pd cP;have nT:0<x.aH.length:=pd ja;have kE:=s2.2.2 (by omega)
 have nL:gU C {x with k:=x.aq.length,ae:=33}∧Ej {x with k:=x.aq.length,ae:=33}∧nm {x with k:=x.aq.length,ae:=33}:=by
  refine⟨s1.mk' rfl rfl rfl,?_,?_⟩
  ·refine⟨fun h=>?_,fun h=>?_,fun h=>?_⟩<;>simp only[hp]at h ⊢<;>omega
  ·obtain⟨a1,a2,a3,a4,a5,a6,a7⟩:=s3;clear fX cP ja s1 s2 L;constructor<;>simp only[hp,e]at*<;>grind
 have dJ:∀c,aL {x with k:=x.aq.length,ae:=33} c↔aL x c:=by
  intro c;unfold aL;rw[e,aF hk,aF hk];have e1:bC x=x.aq.length:=by simp[bC,hp]
  have e2:bC {x with k:=x.aq.length,ae:=33}=x.aq.length:=by simp[bC,hp]
  rw[e1,e2]
 have iw:cV (aP x) C {x with k:=x.aq.length,ae:=33}↔cV (aP x) C x:=Iff.rfl;obtain⟨l1,l2,l3,l4,l5,l6,l7,l8,l9,kN,kO,kP,kQ,kR,mT,mU,kS,mV,kT,kY,mW,kU,kV,kW⟩:=L;clear l8 fX;refine⟨?_,dJ⟩
 ·clear dJ s1 s3 s2;constructor<;>simp only[e,hp,aW,aT,bm,bG]at*<;>grind
theorem M.aq4(L:Loc C x)(hk:(aP x).ai=9)(hp:x.ae=28)(jg:x.k+1<x.aH.length)(i j:Nat)(hi:x.aH[x.k.toNat]?=some (i:Int)):Loc C {x with bA:=x.bA.set i j,k:=x.k+1}∧∀c,aL {x with bA:=x.bA.set i j,k:=x.k+1} c↔aL x c:=by
 have e:aP {x with bA:=x.bA.set i j,k:=x.k+1}=aP x:=rfl;obtain⟨s1,s2,s3⟩:=L.oW hk (by omega) (by omega) (by omega) (by omega);have cP:=s1.Ei;have ja:=s1.ne;have fX:=s1.BD;have hpos:0<x.aq.length:=pd cP;have nT:0<x.aH.length:=pd ja;have kE:=s2.2.2 (by omega)
 have nL:gU C {x with bA:=x.bA.set i j,k:=x.k+1}∧Ej {x with bA:=x.bA.set i j,k:=x.k+1}∧nm {x with bA:=x.bA.set i j,k:=x.k+1}:=by
  refine⟨s1.mk' rfl rfl rfl,?_,?_⟩
  ·refine⟨fun h=>?_,fun h=>?_,fun h=>?_⟩<;>simp only[hp]at h ⊢<;>omega
  ·obtain⟨a1,a2,a3,a4,a5,a6,a7⟩:=s3;have sl:x.bA.length=(aP x).cases.length:=a2 (by omega);obtain⟨_,cc,mP,_⟩:=s1.ord _ (lf hi);have FM:i<x.bA.length:=by have:=cA mP;omega
   have jA:(x.k.toNat:Int)=x.k:=(by omega);have Dx:=s1.nd;have U4:=lf hi;have cM:∀(q:Nat) (v:Int),x.aH[q]?=some v→q≠x.k.toNat→0≤v∧v.toNat≠i:=fun q v hq Ky=>by have h0:=(s1.ord v (lf hq)).1;refine⟨h0,fun e=>Ky ?_⟩;have e2:v=(i:Int):=(by omega);rw[e2]at hq;exact(List.getElem?_inj (cA hq) Dx).1 (hq.trans hi.symm)
   clear fX cP ja s1 s2 L;refine⟨fun h=>(by simp only[hp]at h;omega),fun _=>(by simp only[kI];rw[e];exact sl),fun q v hq hv=>?_,fun h=>(by simp only[hp]at h;omega),fun h=>(by simp only[hp]at h;omega),fun _ q v hq ho=>?_,fun _ q v hq ho=>?_⟩
   ·simp only at hq;by_cases U5:q=i
    ·subst U5;rw[nH FM]at hq;cases hq;exact⟨by omega,U4⟩
    ·rw[oA (dE U5)]at hq;exact a3 q v hq hv
   ·simp only at hq ho ⊢;rw[oA (dE (cM q v ho (by omega)).2)];exact a6 hp q v (by omega) ho
   ·simp only at hq ho ⊢;by_cases Ky:q=x.k.toNat
    ·subst Ky;rw[hi]at ho;cases ho;exact⟨j,by rw[oU,nH FM],by omega⟩
    ·rw[oA (dE (cM q v ho Ky).2)];exact a7 hp q v (by omega) ho
 have dJ:∀c,aL {x with bA:=x.bA.set i j,k:=x.k+1} c↔aL x c:=by
  intro c;unfold aL;rw[e,aF hk,aF hk];have e1:bC x=x.aq.length:=by simp[bC,hp]
  have e2:bC {x with bA:=x.bA.set i j,k:=x.k+1}=x.aq.length:=by simp[bC,hp]
  rw[e1,e2]
 have iw:cV (aP x) C {x with bA:=x.bA.set i j,k:=x.k+1}↔cV (aP x) C x:=Iff.rfl;obtain⟨l1,l2,l3,l4,l5,l6,l7,l8,l9,kN,kO,kP,kQ,kR,mT,mU,kS,mV,kT,kY,mW,kU,kV,kW⟩:=L;clear l8 fX;refine⟨?_,dJ⟩
 ·clear dJ s1 s3 s2;constructor<;>simp only[e,hp,aW,aT,bm,bG]at*<;>grind
theorem M.aq5(L:Loc C x)(hk:(aP x).ai=9)(hp:x.ae=28)(jg:x.k+1=x.aH.length)(i j:Nat)(hi:x.aH[x.k.toNat]?=some (i:Int)):Loc C {x with bA:=x.bA.set i j,k:=0,ae:=29}∧∀c,aL {x with bA:=x.bA.set i j,k:=0,ae:=29} c↔aL x c:=by
 have e:aP {x with bA:=x.bA.set i j,k:=0,ae:=29}=aP x:=rfl;obtain⟨s1,s2,s3⟩:=L.oW hk (by omega) (by omega) (by omega) (by omega);have cP:=s1.Ei;have ja:=s1.ne;have fX:=s1.BD;have hpos:0<x.aq.length:=pd cP;have nT:0<x.aH.length:=pd ja;have kE:=s2.2.2 (by omega)
 have nL:gU C {x with bA:=x.bA.set i j,k:=0,ae:=29}∧Ej {x with bA:=x.bA.set i j,k:=0,ae:=29}∧nm {x with bA:=x.bA.set i j,k:=0,ae:=29}:=by
  refine⟨s1.mk' rfl rfl rfl,?_,?_⟩
  ·refine⟨fun h=>?_,fun h=>?_,fun h=>?_⟩<;>simp only[hp]at h ⊢<;>omega
  ·obtain⟨a1,a2,a3,a4,a5,a6,a7⟩:=s3;have sl:x.bA.length=(aP x).cases.length:=a2 (by omega);obtain⟨_,cc,mP,_⟩:=s1.ord _ (lf hi);have FM:i<x.bA.length:=by have:=cA mP;omega
   have jA:(x.k.toNat:Int)=x.k:=(by omega);have Dx:=s1.nd;have U4:=lf hi;have cM:∀(q:Nat) (v:Int),x.aH[q]?=some v→q≠x.k.toNat→0≤v∧v.toNat≠i:=fun q v hq Ky=>by have h0:=(s1.ord v (lf hq)).1;refine⟨h0,fun e=>Ky ?_⟩;have e2:v=(i:Int):=(by omega);rw[e2]at hq;exact(List.getElem?_inj (cA hq) Dx).1 (hq.trans hi.symm)
   clear fX cP ja s1 s2 L;refine⟨fun h=>(by simp only at h;omega),fun _=>(by simp only[kI];rw[e];exact sl),fun q v hq hv=>?_,fun _ v hv=>?_,fun h=>(by simp only at h;omega),fun h=>(by simp only at h;omega),fun h=>(by simp only at h;omega)⟩
   ·simp only at hq;by_cases U5:q=i
    ·subst U5;rw[nH FM]at hq;cases hq;exact⟨by omega,U4⟩
    ·rw[oA (dE U5)]at hq;exact a3 q v hq hv
   ·simp only at hv ⊢;obtain⟨q,Su⟩:=List.mem_iff_getElem?.1 hv;by_cases Ky:q=x.k.toNat
    ·subst Ky;rw[hi]at Su;cases Su;exact⟨j,by rw[oU,nH FM],by omega⟩
    ·rw[oA (dE (cM q v Su Ky).2)];exact a7 hp q v (by have:=cA Su;omega) Su
 have dJ:∀c,aL {x with bA:=x.bA.set i j,k:=0,ae:=29} c↔aL x c:=by
  intro c;unfold aL;rw[e,aF hk,aF hk];have e1:bC x=x.aq.length:=by simp[bC,hp]
  have e2:bC {x with bA:=x.bA.set i j,k:=0,ae:=29}=x.aq.length:=by simp[bC,hp]
  rw[e1,e2]
 have iw:cV (aP x) C {x with bA:=x.bA.set i j,k:=0,ae:=29}↔cV (aP x) C x:=Iff.rfl;obtain⟨l1,l2,l3,l4,l5,l6,l7,l8,l9,kN,kO,kP,kQ,kR,mT,mU,kS,mV,kT,kY,mW,kU,kV,kW⟩:=L;clear l8 fX;refine⟨?_,dJ⟩
 ·clear dJ s1 s3 s2;constructor<;>simp only[e,hp,aW,aT,bm,bG]at*<;>grind
theorem M.aq6(L:Loc C x)(hk:(aP x).ai=9)(hp:x.ae=34)(jg:x.k+1<x.aH.length)(i:Nat)(hi:x.aH[x.k.toNat]?=some (i:Int)):Loc C {x with bA:=x.bA.set i (-1),k:=x.k+1}∧∀c,aL {x with bA:=x.bA.set i (-1),k:=x.k+1} c↔aL x c:=by
 have e:aP {x with bA:=x.bA.set i (-1),k:=x.k+1}=aP x:=rfl;obtain⟨s1,s2,s3⟩:=L.oW hk (by omega) (by omega) (by omega) (by omega);have cP:=s1.Ei;have ja:=s1.ne;have fX:=s1.BD;have hpos:0<x.aq.length:=pd cP;have nT:0<x.aH.length:=pd ja;have kE:=s2.2.2 (by omega)
 have nL:gU C {x with bA:=x.bA.set i (-1),k:=x.k+1}∧Ej {x with bA:=x.bA.set i (-1),k:=x.k+1}∧nm {x with bA:=x.bA.set i (-1),k:=x.k+1}:=by
  refine⟨s1.mk' rfl rfl rfl,?_,?_⟩
  ·refine⟨fun h=>?_,fun h=>?_,fun h=>?_⟩<;>simp only[hp]at h ⊢<;>omega
  ·obtain⟨a1,a2,a3,a4,a5,a6,a7⟩:=s3;have sl:x.bA.length=(aP x).cases.length:=a2 (by omega);obtain⟨_,cc,mP,_⟩:=s1.ord _ (lf hi);have FM:i<x.bA.length:=by have:=cA mP;omega
   have jA:(x.k.toNat:Int)=x.k:=(by omega);have Dx:=s1.nd;have U4:=lf hi;have cM:∀(q:Nat) (v:Int),x.aH[q]?=some v→q≠x.k.toNat→0≤v∧v.toNat≠i:=fun q v hq Ky=>by have h0:=(s1.ord v (lf hq)).1;refine⟨h0,fun e=>Ky ?_⟩;have e2:v=(i:Int):=(by omega);rw[e2]at hq;exact(List.getElem?_inj (cA hq) Dx).1 (hq.trans hi.symm)
   clear fX cP ja s1 s2 L;refine⟨fun h=>(by simp only[hp]at h;omega),fun _=>(by simp only[kI];rw[e];exact sl),fun q v hq hv=>?_,fun h=>(by simp only[hp]at h;omega),fun _ q v hq ho=>?_,fun h=>(by simp only[hp]at h;omega),fun h=>(by simp only[hp]at h;omega)⟩
   ·simp only at hq;by_cases U5:q=i
    ·subst U5;rw[nH FM]at hq;cases hq;exact aX rfl hv
    ·rw[oA (dE U5)]at hq;exact a3 q v hq hv
   ·simp only at hq ho ⊢;by_cases Ky:q=x.k.toNat
    ·subst Ky;rw[hi]at ho;cases ho;rw[oU,nH FM]
    ·rw[oA (dE (cM q v ho Ky).2)];exact a5 hp q v (by omega) ho
 have dJ:∀c,aL {x with bA:=x.bA.set i (-1),k:=x.k+1} c↔aL x c:=by
  intro c;unfold aL;rw[e,aF hk,aF hk];have e1:bC x=0:=by simp[bC,hp]
  have e2:bC {x with bA:=x.bA.set i (-1),k:=x.k+1}=0:=by simp[bC,hp]
  rw[e1,e2]
 have iw:cV (aP x) C {x with bA:=x.bA.set i (-1),k:=x.k+1}↔cV (aP x) C x:=Iff.rfl;obtain⟨l1,l2,l3,l4,l5,l6,l7,l8,l9,kN,kO,kP,kQ,kR,mT,mU,kS,mV,kT,kY,mW,kU,kV,kW⟩:=L;clear l8 fX;refine⟨?_,dJ⟩
 ·clear dJ s1 s3 s2;constructor<;>simp only[e,hp,aW,aT,bm,bG]at*<;>grind
theorem M.aq7(L:Loc C x)(hk:(aP x).ai=9)(hp:x.ae=34):Loc C {x with k:=0,bA:=[],ae:=18}∧∀c,aL {x with k:=0,bA:=[],ae:=18} c↔aL x c:=by
 have e:aP {x with k:=0,bA:=[],ae:=18}=aP x:=rfl;obtain⟨s1,s2,s3⟩:=L.oW hk (by omega) (by omega) (by omega) (by omega);have cP:=s1.Ei;have ja:=s1.ne;have fX:=s1.BD;have hpos:0<x.aq.length:=pd cP;have nT:0<x.aH.length:=pd ja;have kE:=s2.2.2 (by omega)
 have dJ:∀c,aL {x with k:=0,bA:=[],ae:=18} c↔aL x c:=by
  intro c;unfold aL;rw[e,aF hk,aF hk];have e1:bC x=0:=by simp[bC,hp]
  have e2:bC {x with k:=0,bA:=[],ae:=18}=0:=by simp[bC,hp]
  rw[e1,e2]
 have iw:cV (aP x) C {x with k:=0,bA:=[],ae:=18}↔cV (aP x) C x:=Iff.rfl;obtain⟨l1,l2,l3,l4,l5,l6,l7,l8,l9,kN,kO,kP,kQ,kR,mT,mU,kS,mV,kT,kY,mW,kU,kV,kW⟩:=L;clear l8 fX;refine⟨?_,dJ⟩
 ·clear dJ s1 s3 s2;constructor<;>simp only[e,hp,aW,aT,bm,bG]at*<;>grind
end
end Go.Proofs.YtadifmnmfnihdaaGreat.V
namespace Go.Proofs.YtadifmnmfnihdaaGreat
open Go.RowKit Mach Go.Proofs.Tryz
theorem Pv:(prog.info? 46).map (fun i=>(i.zero,i.size,i.bytes))=some (some (.agg #[I 0,I 0,I 0,I 0,I 0,I 0,I 0,I 0,I 0,I 0,I 0,B false,I 0]),13,104):=by kernel_rfl
theorem underlying39:prog.underlying 39=some (.slice 46):=by kernel_rfl
theorem wy{P:Program}{ops:Array Oper}{o:Oper}{a:Act}{w:World}{K:Act→World→Prop}{Q:Exit→Act→World→Prop}{E:Prop}(nX:o.guard=none)(f:FuncId)(xs:Array Operand)(ts:Array TypeId)(ho:o.op=.call {callee:=.value (.func f),args:=xs,argTypes:=ts})(hen:∀args,(callFunc f args).run P w=.ok (.enter f args) w)(args:Array Value)(ha:xs.map a.eval=args)(post:Ending→World→Prop)(hC:Calls P f args w post)(h:∀e w',post e w'→∃v,e=.returned v∧K (a.put o.dst v) w'):if Region.wanted o (yielded ops a.tmps)=true then Oper.wp P o a w K Q else E:=by
 have hw:Region.wanted o (yielded ops a.tmps)=true:=by simp[Region.wanted,nX]
 rw[aF hw];have hr:(execOp a.eval o).run P w=.ok (.enter f args) w:=by subst ha;simp[execOp,ho,resolve,invoke,hen,Act.eval,Deferred.ofValue]
 unfold Oper.wp;rw[hr,Oper.upon_enter];refine hC.mono ?_;intro e w' hp;obtain⟨v,rfl,hk⟩:=h e w' hp;exact hk
theorem Mc(args:Array Value)(w:World):(callFunc 144 args).run prog w=.ok (.enter 144 args) w:=by
 have hN : (Tryz.f144.name == "runtime.NumGoroutine") = false := by kernel_rfl
 have hN : ¬ Tryz.f144.name = "runtime.NumGoroutine" := by simpa using hN
 have hB:Tryz.f144.body.isNone=false:=by kernel_rfl
 have hB:¬Tryz.f144.body=none:=fun h=>by rw[h]at hB;cases hB
 simp[callFunc,func144,go_sem,hN,hB]
section
variable{af:Nat}{F:Fx}{w w0 w':World}{m m0 m':Mem}{S S':Wd}{L:List (Nat×Obj)}
theorem S6(A:At af F m0 w0 m w S){g:Nat}{x:bI}(hx:S.gs[g]?=some x)(re:Int):Calls prog 144 #[bR F,I g,I re] w (eL (.agg #[I g,I x.at_,I x.call,I x.bJ,I x.point,I x.bF,I x.fire,I re,I x.res.aJ,I x.res.case,I x.res.v,B x.res.ok,I x.res.n]) fun w'=>At af F m0 w0 m w' S):=
 (Lx A.bj g x hx re).mono fun e w' ⟨h1,h2⟩=>⟨h1,A.cont h2⟩
theorem Dy{o:Option Nat}{c:Nat}{l:List Ex}:∀r',r'≠bH.done→r'≠ .al→aj (m.eG .done o c) {S with done:=l} r'=aj m S r':=by
 intro r' h1 h2;have hu:∀r,r≠bH.done→∀n,(m.eG .done o c).cU r n=m.cU r n:=fun r hr n=>Mem.qv m o c n hr
 cases r'<;>first
  |exact aX rfl h1
  |exact aX rfl h2
  |rfl
  |(simp only[aj,gk,Cu,je,Mem.sL _ _ _ (show bH.au≠ .done by simp),hu _ (show _≠bH.done by simp),ne_eq,reduceCtorEq,not_false_eq_true];done)
theorem ua{g c:Nat}{l:List Ex}:aj (m.eG .done (some g) c) {S with done:=l} .al=(aj m S .al).set 13 (.slice (some ⟨g,0,none⟩) l.length c):=by
 simp only[aj,Mem.cU,Mem.ptr,Mem.eG,reduceCtorEq,dF,dt];rfl
theorem At.S8{w1:World}(A:At af F m0 w0 m w S){g c:Nat}{l:List Ex}(hg:w.grownBy w1 (m.aV .done))(hown:w1.ownsRow af 46 13 (.slice (some ⟨g,0,none⟩) l.length c) l.length (bT ib 0 l))(bE:m.aV .done=some g∨w.heap.size≤g):At af F m0 w0 (m.eG .done (some g) c) (w1.setCell ⟨F.al,13,none⟩ (.slice (some ⟨g,0,none⟩) l.length c)) {S with done:=l}:=
 A.row (r:=.done) (p:=(46,13)) rfl (by intro q hq;simp[eI]at hq;exact hq.symm) A.bj.aB.al (by simp) hg hown bE rfl ua Dy
theorem Pw{A0:World}(A:At af F m0 w0 m A0 S){g:Nat}{x:bI}(hx:S.gs[g]?=some x):Calls prog 84 #[bR F,I g] A0 fun e w'=>e=.returned (.tuple #[])∧∃m',At af F m0 w0 m' w' (S.ay g (bu x)):=
 (yE A.bj g x hx).mono fun e w' ⟨h1,m',h2⟩=>⟨h1,m',A.cont h2⟩
theorem IM{w2 W3 w3:World}{gg cap:Nat}{v:Value}{o:Obj}{k:Ex}(A:At af F m0 w0 m w2 S)(hW:W3=w2.alloc o)(jz:v.ownBlock=m.aV .done)(ho:w3.ownsRow af 46 13 (.slice (some ⟨gg,0,none⟩) (S.done.length+1) cap) (S.done.length+1) (bT ib 0 S.done++ib 0 k))(hg:W3.grownBy w3 v.ownBlock)(hw:v.ownBlock=some gg∨W3.heap.size≤gg):At af F m0 w0 (m.eG .done (some gg) cap) (w3.setCell ⟨F.al,13,none⟩ (.slice (some ⟨gg,0,none⟩) (S.done.length+1) cap)) {S with done:=S.done++[k]}:=by
 subst hW;rw[jz]at hg hw;have hl:(S.done++[k]).length=S.done.length+1:=by simp
 have hf:bT ib 0 (S.done++[k])=bT ib 0 S.done++ib 0 k:=by rw[ni];simp[bT,ib]
 have h:=(A.alloc o).S8 (l:=S.done++[k]) (g:=gg) (c:=cap) hg (by rw[hl,hf];exact ho) hw;rw[hl]at h;exact h
theorem FN(R:bz af F w m S)(g:Nat)(S':Wd)(hm:mL S g=some S'):Calls prog 91 #[bR F,I g] w (ee (To af F m w S')):=by
 unfold mL at hm;simp only[bW,cI]at hm;obtain⟨x,hx,hm⟩:=hm;by_cases h1:kJ x.at_=false
 ·rw[aF h1]at hm;cases hm
 rw[aE h1]at hm;have ks:=lM h1;by_cases h2:1000000≤S.done.length
 ·rw[aF h2]at hm;cases hm
 rw[aE h2]at hm
 cases hm;have eM:=cA hx;obtain⟨i0,hi,fV,gF,gG⟩:=info_parts Pv;have c2:=R.dM;have V2:=R.NF;obtain⟨aU,cm,aY,aZ⟩:=R.pB;have HA:=ag (At.refl R);have HX:=ag hx;obtain⟨n,hn⟩:=dC (S.done.length);obtain⟨v,hv⟩:=dC (m.cU .done S.done.length);rw[←hv]at V2;obtain⟨HN,HV⟩:=dA hn hv;have Kc:Hid (v.ownBlock=m.aV .done):=by rw[hv,Mem.mM];exact ag rfl
 have E8:Hid (v.ownBlock≠some F.al):=by rw[Kc.out];exact R.jv R.aB.al (by simp)
 have RE:n<1000001:=by omega
 clear R hx hn hv h1 h2;have Kz:=ag (fun(ops:Array Oper) (o:Oper) (ac:Act) (K:Act→World→Prop) (Q:Exit→Act→World→Prop) (E:Prop) (W:World) (nX:o.guard=none) (ho:o.op=.call {callee:=.value (.func 144),args:=#[.tmp 9,.tmp 10,.tmp 14],argTypes:=#[76,3,3]}) (ha:(#[.tmp 9,.tmp 10,.tmp 14]:Array Operand).map ac.eval=#[.pointer (some ⟨F.al,0,none⟩),I g,I S.av]) (hW:W.heap=w.heap) (h2:W.os=w.os) (h3:W.tape=w.tape) (h4:W.output=w.output) (hK:∀w1,At af F m w m w1 S→K (ac.put o.dst (.agg #[I g,I x.at_,I x.call,I x.bJ,I x.point,I x.bF,I x.fire,I S.av,I x.res.aJ,I x.res.case,I x.res.v,B x.res.ok,I x.res.n])) w1)=>wy (P:=prog) (ops:=ops) (o:=o) (a:=ac) (w:=W) (K:=K) (Q:=Q) (E:=E) nX 144 _ _ ho (fun args=>Mc args W) _ ha _ (S6 (HA.out.aI hW h2 h3 h4) HX.out S.av) (fun e w' h=>⟨_,h.1,hK w' h.2⟩));unfold bR;go_enter func91,ntmps91;go_wp2_with fail
 go_region_law (first|(refine Kz.out _ _ _ _ _ _ _ rfl rfl (by simp[Act.eval,Act.put]) rfl rfl rfl rfl ?_;intro wN A1;have RN:=A1.bj;have hown:=RN.owns (r:=.done) (p:=(46,13)) rfl (by decide) (n:=n) (by rw[HN.out];exact dX (f:=ib) (k:=13) (fun _ _=>rfl) S.done 0);rw[show m.cU .done n=v by rw[HN.out,HV.out]]at hown;have HO:=ag hown;have qq:=RN.eS;have e13:=RN.NF;rw[show m.cU .done S.done.length=v from HV.out.symm]at e13;have Z2:=RN.frozen RN.aB.al 13;have l1:=RN.lt RN.aB.al;have HB:=ag A1;clear A1 RN hown)|(refine jN (us:=#[I g,I x.at_,I x.call,I x.bJ,I x.point,I x.bF,I x.fire,I S.av,I x.res.aJ,I x.res.case,I x.res.v,B x.res.ok,I x.res.n]) (w2:=wN) rfl (.tmp 8) (.tmp 16) 39 rfl underlying39 hi fV gF gG rfl (by decide) (by decide) rfl rfl (by simp[Value.oneCell']) v n _ rfl HO.out rfl RE qq ?_;intro gg cap w3 er bX bE;have d13:=fW (o:=.cells #[I g,I x.at_,I x.call,I x.bJ,I x.point,I x.bF,I x.fire,I S.av,I x.res.aJ,I x.res.case,I x.res.v,B x.res.ok,I x.res.n] 46) bX e13 rfl E8.out;have aq8:=fN (o:=.cells #[I g,I x.at_,I x.call,I x.bJ,I x.point,I x.bF,I x.fire,I S.av,I x.res.aJ,I x.res.case,I x.res.v,B x.res.ok,I x.res.n] 46) bX Z2 l1 rfl E8.out;obtain⟨Iq,Ns,SH⟩:=ij er bX bE;clear er bX bE))
 all_goals
  have A5:=IM (k:=qu x g S.av) HB.out rfl Kc.out (by rw[←HN.out];exact Iq.out) Ns.out SH.out;rw[←HN.out]at A5;obtain⟨w5,Ha,A5⟩:∃w5,w5=_∧At af F m w (m.eG .done (some gg) cap) w5 _:=⟨_,rfl,A5⟩;rw[←Ha];have R5:=A5.bj;have ub:Hid (({S with done:=S.done++[qu x g S.av]}:Wd).gs[g]?=some x):=HX.out;have d3:=R5.eu;have l2:=R5.lt R5.aB.gs;have l3:=R5.lt R5.aB.al;have g1:=R5.g ub.out 1 _ rfl;have gf1:=R5.frozen R5.aB.gs (g*25+1);have vV:=ag (A5.g ub.out {x with at_:=x.at_+1} (q:=1) (v:=I (x.at_+1)));have Hb:Hid ((({S with done:=S.done++[qu x g S.av]}:Wd).ay g {x with at_:=x.at_+1}).gs[g]?=some {x with at_:=x.at_+1}):=az ub.out;clear A5 Ha R5 d13 aq8 e13 Z2 c2 V2;go_wp2_with (go_at_call 84;refine(Pw (af:=af) (F:=F) (m0:=m) (w0:=w) (m:=m.eG .done (some gg) cap) (S:=({S with done:=S.done++[qu x g S.av]}:Wd).ay g {x with at_:=x.at_+1}) ?_ Hb.out).mono ?_;exact vV.out.aI;rintro e w6 ⟨rfl,m6,A6⟩;have R6:=A6.bj;have FO:=ag (az (y:=bu {x with at_:=x.at_+1}) Hb.out);have q3:=R6.eu;simp only[Wd.ay,kI]at q3;have l4:=R6.lt R6.aB.gs;have l5:=R6.lt R6.aB.al;have q2:=R6.g FO.out 2 _ rfl;have fq2:=R6.frozen R6.aB.gs (g*25+2);have HZ:=ag (A6.g FO.out {bu {x with at_:=x.at_+1}with ae:=0} (q:=2) (v:=I 0));clear A6 R6);go_end0;refine⟨rfl,_,HZ.out.eq ?_⟩;rw[aA,aA]
theorem sm{g:Nat}{S':Wd}{fin:Bool}(hm:ep S g=some (S',fin)):∃(x:bI) (j:Nat) (l:Int),S.gs[g]?=some x∧x.k=j+1∧(j:Int)≤1000000000∧x.aq[j]?=some l∧ -1000000000≤l∧l≤1000000000∧S'=(free S (l-1) g).ay g {x with k:=j}∧fin=decide (j=0):=by
 unfold ep at hm;simp only[bW,cI]at hm;obtain⟨x,hx,hm⟩:=hm;by_cases h1:kJ x.k=false
 ·rw[aF h1]at hm;cases hm
 rw[aE h1]at hm;simp only[cI]at hm;obtain⟨l,hl,hm⟩:=hm;by_cases h2:kJ l=false
 ·rw[aF h2]at hm;cases hm
 rw[aE h2]at hm
 cases hm;have h1:=lM h1;have h2:=lM h2;obtain⟨j,hj,vy,hjv⟩:=mO hl;have hk:x.k=j+1:=by omega
 refine⟨x,j,l,hx,hk,by omega,hjv,h2.1,h2.2,by rw[hj],?_⟩;rw[hj];simp
theorem xD(R:bz af F w m S)(g:Nat)(S':Wd)(fin:Bool)(hm:ep S g=some (S',fin)):Calls prog 121 #[bR F,I g] w (eL (.bool fin) fun w'=>At af F m w m w' S'):=by
 obtain⟨x,j,l,hx,hk,hj9,hl,El,pJ,rfl,rfl⟩:=sm hm;have eM:=cA hx;have c3:=R.eu;obtain⟨g24,E5⟩:=R.ef hx 24 _ rfl;obtain⟨aU,cm,aY,aZ⟩:=R.pB;rw[hk]at g24;have A1:=(At.refl R).g hx {x with k:=j} (q:=24) (v:=I j);have HA:=ag A1;have HG:Hid ((S.ay g {x with k:=j}).gs[g]?=some {x with k:=j}):=az hx;have HL:=ag hl;have vy:j<x.aq.length:=cA hl;have hs:IntKind.i64.wrap ((j:Int)+1-1)=(j:Int):=by rw[jX _ (by omega)];omega
 clear R hx hm A1 hk hl;unfold bR;go_enter func121,ntmps121;go_wp2_with fail
 obtain⟨w1,jk,A1⟩:∃w1,w1=_∧At af F m w m w1 _:=⟨_,rfl,HA.out⟩;rw[←jk];have R1:=A1.bj;obtain⟨b,hb,hd,hc⟩:=R1.CU HG.out HL.out;have d3:=R1.eu;have d7:=R1.pC;have k21:=R1.g HG.out 21 _ rfl;have k24:=R1.g HG.out 24 _ rfl;have aA7:=R1.frozen R1.aB.gs (g*25+24);rw[show(S.ay g {x with k:=(j:Int)}).gs.length=S.gs.length by simp[Wd.ay]]at d3;rw[hd]at k21;have HB:=ag A1;clear A1 jk R1 hb hd c3 g24 E5;refine wp_region_still_tail 16 (by kernel_rfl) (by kernel_rfl) ?_;change wpStill _ _ w1.drew (fun a=>wpList _ _ _ _ a w1.drew) _ _;simp only[sS,sX,sU,rC];repeat still_step
 refine wpStill_nil ?_;go_wp2_with (go_at_call 156;refine(C9 (af:=af) (F:=F) (w0:=w) (m0:=m) (m:=m) (S:=S.ay g {x with k:=(j:Int)}) ?_ (l-1) g).mono ?_;exact HB.out.aI;rintro e wN ⟨⟨bb,rfl⟩,A2⟩;have R2:=A2.bj;have AJ:=R2.g (S:=free (S.ay g {x with k:=(j:Int)}) (l-1) g) HG.out 24 _ rfl;have HC:=ag A2;clear A2 R2);go_ret;refine⟨?_,HC.out⟩;simp
end
structure Reads(w:World)(v:Value)(xs:List Int):Prop where
 shape:∃a c,v=.slice a xs.length c
 cell:∀j x,xs[j]?=some x→∃b c,v=.slice (some ⟨b,0,none⟩) xs.length c∧w.cell? ⟨b,j,none⟩=some (I x)
theorem IN(s:Int)(w:World):Calls prog 178 #[I s] w (eL (.bool (s != -1)) fun w'=>w=w'):=by
 go_enter func178,ntmps178;go_wp2;go_ret;exact⟨rfl,rfl⟩
theorem IP(a:Option Addr)(c n:Nat)(xs:List Int)(hn:n=xs.length)(RH:n≤1000000)(w:World)(hr:Reads w (.slice a n c) xs):Calls prog 73 #[.slice a n c,.func (.func 178) #[] #[]] w fun e w'=>(∃r:Int,e=.returned (I r)∧(0≤r↔xs.any (fun s=>s != -1)=true))∧w=w':=by
 have HR:=ag hr;have HN:=ag hn;have HI:=ag (fun s w=>IN s w);clear hr hn;go_enter func73,ntmps73;go_wp2;go_loopw [4,5,8] (fun r v i wr=>∃k:Nat,i=.int .i64 k∧k≤n∧Hid (∀j,j<k→xs[j]?=some (-1))∧wr=w) (fun r v i _=>n-(intOf i).toNat)
 case atStart=>exact⟨0,rfl,by omega,fun j hj=>by omega,rfl⟩
 case round=>
  obtain⟨k,rfl,hk,HP,rfl⟩:=hrel;by_cases dD:k<n
  ·obtain⟨x,hx⟩:∃x,xs[k]?=some x:=⟨_,fv (by rw[←HN.out];exact dD)⟩;obtain⟨b,cc,hb,hc⟩:=HR.out.cell k x hx;simp only[Value.slice.injEq]at hb;obtain⟨rfl,Ww,rfl⟩:=hb;clear Ww;have HX:=ag hx;by_cases h1:x= -1
   ·have gq:(x != -1)=false:=(by simp[h1]);rw[h1]at hc HX;clear hx h1 gq;go_wp2_with (go_at_call 178;refine(HI.out _ _).mono ?_;rintro e w2 ⟨rfl,rfl⟩);go_roundw
    case rel=>
     refine⟨k+1,by simp,by omega,fun j hj=>?_,trivial⟩;rcases Nat.lt_or_ge j k with h|h
     ·exact HP.out j h
     ·obtain rfl:j=k:=by omega
      exact HX.out
    case measure=>simp[intOf];omega
   ·have gq:(x != -1)=true:=(by simpa using h1);have H1:=ag gq;clear hx h1 gq;go_wp2_with (go_at_call 178;refine(HI.out _ _).mono ?_;rintro e w2 ⟨rfl,rfl⟩;rw[H1.out]);go_ret;refine⟨⟨k,rfl,?_⟩,rfl⟩;constructor
    ·intro _;rw[List.any_eq_true];exact⟨x,lf HX.out,H1.out⟩
    ·intro _;omega
  ·obtain rfl:k=n:=by omega
   go_wp2;go_ret;refine⟨⟨-1,rfl,?_⟩,rfl⟩;constructor
   ·intro h;omega
   ·intro h;exfalso;rw[List.any_eq_true]at h;obtain⟨x,hx,h⟩:=h;obtain⟨j,hj⟩:=List.getElem?_of_mem hx;have vy:=cA hj;rw[HP.out j (by rw[HN.out];exact vy)]at hj
    cases hj;simp at h
theorem tr(a:Option Addr)(c n:Nat)(xs:List Int)(hn:n=xs.length)(RH:n≤1000000)(w:World)(hr:Reads w (.slice a n c) xs):Calls prog 40 #[.slice a n c,.func (.func 178) #[] #[]] w fun e w'=>e=.returned (.bool (xs.any (fun s=>s != -1)))∧w=w':=by
 have HI:=ag (IP a c n xs hn RH w hr);obtain⟨r,C5⟩:=dC (xs.any (fun s=>s != -1));rw[←C5]at HI ⊢;clear hr hn C5;go_enter func40,ntmps40;go_wp2_with (go_at_call 73;refine HI.out.mono ?_;rintro e w2 ⟨⟨q,rfl,hq⟩,rfl⟩;have HQ:=ag hq;clear hq);go_ret;refine⟨?_,rfl⟩;have h:=HQ.out
 cases r with
 |true=>simp at h;simp[h]
 |false=>simp at h;simp;omega
section
variable{af:Nat}{F:Fx}{w w0 w':World}{m m0 m':Mem}{S S':Wd}{L:List (Nat×Obj)}
theorem bz.FP(R:bz af F w m S){g:Nat}{x:bI}(hx:S.gs[g]?=some x):Reads w (m.cU (.bA g) x.bA.length) x.bA:=by
 refine⟨R.shape (by simp[aj,hx]),fun j v hv=>?_⟩;obtain⟨b,hb,hd,hc⟩:=R.ti hx hv;exact⟨b,_,hd,hc⟩
theorem jb(A:At af F m0 w0 m w S){g:Nat}{S':Wd}{fin:Bool}(hm:ep S g=some (S',fin)):Calls prog 121 #[bR F,I g] w (eL (.bool fin) fun w'=>At af F m0 w0 m w' S'):=
 (xD A.bj g S' fin hm).mono fun e w' ⟨h1,h2⟩=>⟨h1,A.cont h2⟩
theorem xe(A:At af F m0 w0 m w S){g:Nat}{x:bI}(hx:S.gs[g]?=some x)(p:Int):Calls prog 175 #[bR F,I g,I p] w (ee fun w'=>At af F m0 w0 m w' (S.ay g (eZ x p))):=
 (tj A.bj g x hx p).mono fun e w' ⟨h1,h2⟩=>⟨h1,A.cont h2⟩
theorem Dz(A:At af F m0 w0 m w S){g:Nat}{x:bI}(hx:S.gs[g]?=some x):Calls prog 179 #[.pointer (some ⟨F.al,0,none⟩),I g] w fun e w'=>e=.returned (I (hJ x))∧w=w':=LG A.bj g x hx
theorem zf(R:bz af F w m S)(g:Nat)(S1:Wd)(hm:ep S g=some (S1,false)):Calls prog 118 #[bR F,I g] w (ee fun w'=>At af F m w m w' S1):=by
 have HR:=ag (At.refl R);have HM:=ag hm;clear R hm;unfold bR;go_enter func118,ntmps118;go_wp2_with (go_at_call 121;refine(jb HR.out HM.out).mono ?_;rintro e w1 ⟨rfl,A1⟩;have HA:=ag A1;clear A1);refine bodyPost_ret (results_none rfl _ _ _) rfl ?_;exact⟨rfl,HA.out⟩
theorem zg(R:bz af F w m S)(g:Nat)(S1:Wd)(hm:ep S g=some (S1,true))(x:bI)(hx:S1.gs[g]?=some x)(h0:x.res.aJ=0):Calls prog 118 #[bR F,I g] w (ee fun w'=>At af F m w m w' (S1.ay g {x with ae:=13})):=by
 have HR:=ag (At.refl R);have HM:=ag hm;have HX:=ag hx;have H0:=ag h0;have eM:g<S1.gs.length:=cA hx;clear R hm hx h0;unfold bR;go_enter func118,ntmps118;go_wp2_with (go_at_call 121;refine(jb HR.out HM.out).mono ?_;rintro e w1 ⟨rfl,A1⟩;have R1:=A1.bj;have c3:=R1.eu;have p2:=R1.g HX.out 2 _ rfl;have wW:=R1.frozen R1.aB.gs (g*25+2);have Ip:=R1.g HX.out 15 _ rfl;rw[H0.out]at Ip;have HA:=ag A1;clear A1 R1);go_end0;exact⟨rfl,HA.out.g HX.out {x with ae:=13} (q:=2) (v:=I 13)⟩
theorem xE(R:bz af F w m S)(g:Nat)(S1:Wd)(hm:ep S g=some (S1,true))(x:bI)(hx:S1.gs[g]?=some x)(h0:x.res.aJ≠0)(hl:x.bA.length≤1000000)(ha:x.bA.any (fun s=>s != -1)=true):Calls prog 118 #[bR F,I g] w (ee fun w'=>At af F m w m w' (S1.ay g {x with ae:=34})):=by
 have HR:=ag (At.refl R);have HM:=ag hm;have HX:=ag hx;have hc:(x.res.aJ==0)=false:=by simpa using h0
 have HV:=ag ha;have eM:g<S1.gs.length:=cA hx;obtain⟨n,hn⟩:=dC (x.bA.length);have HN:=ag hn;rw[←hn]at hl;have HL:=ag hl;clear R hm hx h0 ha hn hl;unfold bR;go_enter func118,ntmps118;go_wp2_with (first|(go_at_call 121;refine(jb HR.out HM.out).mono ?_;rintro e w1 ⟨rfl,A1⟩;have R1:=A1.bj;have c3:=R1.eu;have p2:=R1.g HX.out 2 _ rfl;have wW:=R1.frozen R1.aB.gs (g*25+2);have Ip:=R1.g HX.out 15 _ rfl;have Es:=R1.g HX.out 22 _ rfl;have jF:=R1.FP HX.out;obtain⟨aa,cc,Wx⟩:=jF.shape;rw[←HN.out]at Es Wx jF;rw[Wx]at Es jF;obtain⟨CZ,HA⟩:=dA jF A1;clear A1 R1 jF Wx)|(go_at_call 40;refine(tr aa cc n x.bA HN.out HL.out _ CZ.out).mono ?_;rintro e w2 ⟨rfl,rfl⟩;rw[HV.out]));go_end0;exact⟨rfl,HA.out.g HX.out {x with ae:=34} (q:=2) (v:=I 34)⟩
theorem zh(R:bz af F w m S)(g:Nat)(S1:Wd)(hm:ep S g=some (S1,true))(x:bI)(hx:S1.gs[g]?=some x)(h0:x.res.aJ≠0)(hl:x.bA.length≤1000000)(ha:x.bA.any (fun s=>s != -1)=false):Calls prog 118 #[bR F,I g] w (ee fun w'=>At af F m w m w' (S1.ay g {x with ae:=hJ x})):=by
 have HR:=ag (At.refl R);have HM:=ag hm;have HX:=ag hx;have hc:(x.res.aJ==0)=false:=by simpa using h0
 have HV:=ag ha;have eM:g<S1.gs.length:=cA hx;obtain⟨n,hn⟩:=dC (x.bA.length);have HN:=ag hn;rw[←hn]at hl;have HL:=ag hl;clear R hm hx h0 ha hn hl;unfold bR;go_enter func118,ntmps118;go_wp2_with (first|(go_at_call 121;refine(jb HR.out HM.out).mono ?_;rintro e w1 ⟨rfl,A1⟩;have R1:=A1.bj;have c3:=R1.eu;have p2:=R1.g HX.out 2 _ rfl;have wW:=R1.frozen R1.aB.gs (g*25+2);have Ip:=R1.g HX.out 15 _ rfl;have Es:=R1.g HX.out 22 _ rfl;have jF:=R1.FP HX.out;obtain⟨aa,cc,Wx⟩:=jF.shape;rw[←HN.out]at Es Wx jF;rw[Wx]at Es jF;obtain⟨CZ,HA⟩:=dA jF A1;clear A1 R1 jF Wx)|(go_at_call 40;refine(tr aa cc n x.bA HN.out HL.out _ CZ.out).mono ?_;rintro e w2 ⟨rfl,rfl⟩;rw[HV.out])|(go_at_call 179;refine(Dz HA.out HX.out).mono ?_;rintro e w2 ⟨rfl,rfl⟩));go_end0;exact⟨rfl,HA.out.g HX.out {x with ae:=hJ x} (q:=2) (v:=I (hJ x))⟩
theorem zi(R:bz af F w m S)(g:Nat)(oo:∀x,S.gs[g]?=some x→x.bA.length≤1000000)(S':Wd)(hm:iH S g=some S'):Calls prog 118 #[.pointer (some ⟨F.al,0,none⟩),I g] w (ee fun w'=>At af F m w m w' S'):=by
 unfold iH at hm;simp only[bW,cI]at hm;obtain⟨⟨S1,fin⟩,h1,hm⟩:=hm
 cases fin with
 |false=>
  simp only[dt,oZ]at hm;subst hm;exact zf R g S1 h1
 |true=>
  simp only[m8,dF]at hm;unfold fL at hm
  cases hx:S1.gs[g]? with
  |none=>rw[hx]at hm;cases hm
  |some x=>
   rw[hx]at hm
   cases hm;show Calls prog 118 #[.pointer (some ⟨F.al,0,none⟩),I g] w fun e w'=>e=.returned (.tuple #[])∧At af F m w m w' (S1.ay g {x with ae:=fG x})
   have hl:x.bA.length≤1000000:=by
    obtain⟨y,j,l,hy,_,_,_,_,_,he,_⟩:=sm h1;subst he;have h2:((free S (l-1) g).ay g {y with k:=(j:Int)}).gs[g]?=some {y with k:=(j:Int)}:=az (S:=free S (l-1) g) hy;rw[h2]at hx
    cases hx;exact oo y hy
   by_cases h0:x.res.aJ=0
   ·rw[show fG x=13 by unfold fG;rw[aF h0]];exact zg R g S1 h1 x hx h0
   ·cases ha:x.bA.any (fun s=>s != -1) with
    |true=>
     rw[show fG x=34 by unfold fG;rw[aE h0,aF ha]];exact xE R g S1 h1 x hx h0 hl ha
    |false=>
     rw[show fG x=hJ x by unfold fG;rw[aE h0,aE (by simp[ha])]];exact zh R g S1 h1 x hx h0 hl ha
theorem u3(A:At af F m0 w0 m w S){g:Nat}{x:bI}(hx:S.gs[g]?=some x){h:Int}(hh:dU x=some h):Calls prog 170 #[.pointer (some ⟨F.al,0,none⟩),I g] w fun e w'=>e=.returned (I h)∧∃n,w'=w.drewN n:=vX A.bj g x hx h hh
theorem rm(R:bz af F w m S)(g:Nat)(S':Wd)(hm:eH S g=some S'):Calls prog 114 #[bR F,I g] w (ee fun w'=>At af F m w m w' S'):=by
 unfold eH at hm;simp only[bW,cI]at hm;obtain⟨x,hx,hm⟩:=hm;have eM:=cA hx;have c3:=R.eu;have g2:=R.g hx 2 _ rfl;obtain⟨g14,aq9⟩:=R.ef hx 14 _ rfl;obtain⟨aU,cm,aY,aZ⟩:=R.pB;have HR:=ag (At.refl R);by_cases hp:x.ae=27
 ·rw[aF hp]at hm;simp only[cI]at hm;obtain⟨h,hh,hm⟩:=hm
  cases hm;rw[hp]at g2;have A1:=(At.refl R).g hx {x with fire:=h} (q:=14) (v:=I h)
  have HA:=ag A1;have HX:=ag hx;have HH:=ag hh;clear R hx hh A1 hp;unfold bR;go_enter func114,ntmps114;go_wp2_with fail
  go_region_with (go_at_call 170;refine(u3 (af:=af) (F:=F) (m0:=m) (w0:=w) (m:=m) (S:=S) ?_ HX.out HH.out).mono ?_;exact HR.out.aI;rintro e w1 ⟨rfl,n,rfl⟩)
  all_goals
   go_wp2;go_end0;exact⟨rfl,HA.out.aI⟩
 ·rw[aE hp]at hm
  cases hm;have hb:(x.ae==27)=false:=by simpa using hp
  clear R hx hp;unfold bR;go_enter func114,ntmps114;go_wp2;go_end0;exact⟨rfl,HR.out⟩
theorem Ce(R:bz af F w m S)(g:Nat)(x:bI)(hx:S.gs[g]?=some x)(r:nP):Calls prog 173 #[bR F,I g,.agg #[I r.aJ,I r.case,I r.v,B r.ok,I r.n]] w (ee fun w'=>At af F m w m w' (S.ay g (eZ {x with res:=r,point:=S.av,fire:=r.case} 30))):=by
 have eM:=cA hx;have c2:=R.dM;have c3:=R.eu;obtain⟨g12,xC⟩:=R.ef hx 12 _ rfl;obtain⟨g14,aq9⟩:=R.ef hx 14 _ rfl;obtain⟨g15,tT⟩:=R.ef hx 15 _ rfl;obtain⟨g16,tU⟩:=R.ef hx 16 _ rfl;obtain⟨g17,tV⟩:=R.ef hx 17 _ rfl;obtain⟨g18,tW⟩:=R.ef hx 18 _ rfl;obtain⟨g19,tX⟩:=R.ef hx 19 _ rfl;obtain⟨aU,cm,aY,aZ⟩:=R.pB;have A1:=(At.refl R).res hx r;have A2:=A1.g (az hx) {x with res:=r,point:=S.av} (q:=12) (v:=I S.av);rw[aA]at A2;have A3:=A2.g (az hx) {x with res:=r,point:=S.av,fire:=r.case} (q:=14) (v:=I r.case);rw[aA]at A3;have A4:=A3.alloc (.cells #[I r.aJ,I r.case,I r.v,B r.ok,I r.n] 44);have HA:=ag A4;have HX:Hid ((S.ay g {x with res:=r,point:=S.av,fire:=r.case}).gs[g]?=some {x with res:=r,point:=S.av,fire:=r.case}):=az hx;clear R hx A1 A2 A3 A4;unfold bR;go_enter func173,ntmps173;go_wp2_with (go_at_call 175;refine(xe (af:=af) (F:=F) (m0:=m) (w0:=w) (m:=m) (S:=S.ay g {x with res:=r,point:=S.av,fire:=r.case}) ?_ HX.out 30).mono ?_;exact HA.out.aI;rintro e w1 ⟨rfl,A1⟩;have HB:=ag A1;clear A1);go_end0;exact⟨rfl,HB.out.eq aA⟩
theorem S9(A:At af F m0 w0 m w S){g:Nat}{x:bI}(hx:S.gs[g]?=some x)(r:nP):Calls prog 173 #[bR F,I g,.agg #[I r.aJ,I r.case,I r.v,B r.ok,I r.n]] w (ee fun w'=>At af F m0 w0 m w' (S.ay g (eZ {x with res:=r,point:=S.av,fire:=r.case} 30))):=
 (Ce A.bj g x hx r).mono fun e w' ⟨h1,h2⟩=>⟨h1,A.cont h2⟩
theorem zj{w w':World}(h:Below w.heap.size w w')(r:Option Nat):w.grownBy w' r:=⟨h.os,h.tape,h.output,h.size,fun b hb _=>h.block b hb⟩
theorem DA{w:World}{b n:Nat}{xs:List Value}(hl:xs.length=n)(hn:n≤1000000){af:Nat}(hb:af≤b)(h:w.heap[b]?=some (.cells xs.toArray 3 (0,0))):w.ownsRow af 3 1 (.slice (some ⟨b,0,none⟩) n n) n xs:=by
 refine⟨by omega,.inr ⟨b,n,xs.toArray,rfl,hb,h,Nat.le_refl _,by unfold maxLen;omega,by simp[hl],?_⟩⟩;exact yl (by simp[hl])
theorem Md{W:World}{b:Nat}(hb:W.heap.size=b)(v:Value)(t:TypeId):(W.alloc (.cells #[v] t)).cell? ⟨b,0,none⟩=some v:=by
 subst hb;rw[cr _ _ _ _ _ _ (dP W _)];rfl
theorem At.IQ{W W' w2:World}(Ta:Below W.heap.size W w2)(A:At af F m0 w0 m W' S)(h1:W.heap=W'.heap)(h2:W.os=W'.os)(h3:W.tape=W'.tape)(h4:W.output=W'.output):At af F m0 w0 m w2 S:=(A.aI h1 h2 h3 h4).heap Ta
theorem At.Wy{W W' w2:World}{nb:Nat}(Ta:Below W.heap.size W w2)(A:At af F m0 w0 m W' S)(h1:W.heap=W'.heap)(h2:W.os=W'.os)(h3:W.tape=W'.tape)(h4:W.output=W'.output)(EI:W.heap.size≤nb){j:Nat}{x:bI}(hx:S.gs[j]?=some x){l:List Int}(hl:l.length≤1000000)(mA:w2.heap[nb]?=some (.cells (l.map I).toArray 3 (0,0))):At af F m0 w0 (m.eG (.bA j) (some nb) l.length) (w2.setCell ⟨F.gs,j*25+22,none⟩ (.slice (some ⟨nb,0,none⟩) l.length l.length)) (S.ay j {x with bA:=l}):=by
 have A2:=A.aI h1 h2 h3 h4;exact A2.Vp hx (zj Ta _) (DA (by simp) hl (jm A2.bj.eS EI) mA) (.inr EI)
theorem AX(R:bz af F w m S)(g:Nat)(x:bI)(hx:S.gs[g]?=some x)(k:Int)(hk:x.k=k)(oz:eX k)(o:cu)(ca:Option Addr)(cn cc:Nat)(dD:k+1<x.aH.length):Calls prog 174 #[bR F,I g,.agg #[I o.ai,I o.ch,I o.n,I o.v,.slice ca cn cc,B o.dG]] w (ee fun w'=>At af F m w m w' (S.ay g {x with k:=k+1})):=by
 have eM:=cA hx;have c3:=R.eu;have g20:=R.g hx 20 _ rfl;obtain⟨g24,E5⟩:=R.ef hx 24 _ rfl;obtain⟨aU,cm,aY,aZ⟩:=R.pB;obtain⟨a,c,hd⟩:=R.shape (r:=.aH g) (n:=x.aH.length) (by simp[aj,hx]);rw[hd]at g20;rw[hk]at g24;obtain⟨n,hn⟩:=dC (x.aH.length);rw[←hn]at g20 dD;have hb:decide (k+1<(n:Int))=true:=by simpa using dD
 have A1:=(At.refl R).g hx {x with k:=k+1} (q:=24) (v:=I (k+1));have HA:=ag (A1.alloc (.cells #[I o.ai,I o.ch,I o.n,I o.v,.slice ca cn cc,B o.dG] 49));clear R hx hk hd hn dD A1;unfold bR;go_enter func174,ntmps174;go_wp2_with fail
 go_quiet (fail);go_wp2;refine bodyPost_ret (results_none rfl _ _ _) rfl ?_;exact⟨rfl,HA.out.aI⟩
theorem AY(R:bz af F w m S)(g:Nat)(x:bI)(hx:S.gs[g]?=some x)(k:Int)(hk:x.k=k)(oz:eX k)(o:cu)(ca:Option Addr)(cn cc:Nat)(dD:¬k+1<x.aH.length)(he:o.dG=true):Calls prog 174 #[bR F,I g,.agg #[I o.ai,I o.ch,I o.n,I o.v,.slice ca cn cc,B o.dG]] w (ee fun w'=>At af F m w m w' ((S.ay g {x with k:=k+1}).ay g (eZ {x with k:=k+1,res:={aJ:=2,case:= -1},point:=S.av,fire:= -1} 30))):=by
 have eM:=cA hx;have c3:=R.eu;have g20:=R.g hx 20 _ rfl;obtain⟨g24,E5⟩:=R.ef hx 24 _ rfl;obtain⟨aU,cm,aY,aZ⟩:=R.pB;obtain⟨a,c,hd⟩:=R.shape (r:=.aH g) (n:=x.aH.length) (by simp[aj,hx]);rw[hd]at g20;rw[hk]at g24;obtain⟨n,hn⟩:=dC (x.aH.length);rw[←hn]at g20 dD;have hb:decide (k+1<(n:Int))=false:=by simpa using dD
 have A1:=(At.refl R).g hx {x with k:=k+1} (q:=24) (v:=I (k+1));rw[he];have HA:=ag (A1.alloc (.cells #[I o.ai,I o.ch,I o.n,I o.v,.slice ca cn cc,B true] 49));have HX:Hid ((S.ay g {x with k:=k+1}).gs[g]?=some {x with k:=k+1}):=az hx;clear R hx hk hd hn dD A1 he;unfold bR;go_enter func174,ntmps174;go_wp2_with fail
 go_quiet (fail);go_wp2_with (go_at_call 173;refine(S9 (af:=af) (F:=F) (m0:=m) (w0:=w) (m:=m) (S:=S.ay g {x with k:=k+1}) ?_ HX.out {aJ:=2,case:= -1}).mono ?_;exact HA.out.aI;rintro e w1 ⟨rfl,A1⟩;have HB:=ag A1;clear A1);refine bodyPost_ret (results_none rfl _ _ _) rfl ?_;exact⟨rfl,HB.out⟩
theorem AZ(R:bz af F w m S)(g:Nat)(x:bI)(hx:S.gs[g]?=some x)(k:Int)(hk:x.k=k)(oz:eX k)(o:cu)(ca:Option Addr)(cn cc:Nat)(dD:¬k+1<x.aH.length)(he:o.dG=false)(ar0:1≤cn)(RG:cn≤1000):Calls prog 174 #[bR F,I g,.agg #[I o.ai,I o.ch,I o.n,I o.v,.slice ca cn cc,B o.dG]] w (ee fun w'=>To af F m w (S.ay g {x with bA:=List.replicate cn (-1),k:=0,ae:=28}) w'):=by
 have eM:=cA hx;have c3:=R.eu;have g20:=R.g hx 20 _ rfl;obtain⟨g24,E5⟩:=R.ef hx 24 _ rfl;obtain⟨aU,cm,aY,aZ⟩:=R.pB;obtain⟨a,c,hd⟩:=R.shape (r:=.aH g) (n:=x.aH.length) (by simp[aj,hx]);rw[hd]at g20;rw[hk]at g24;obtain⟨n,hn⟩:=dC (x.aH.length);rw[←hn]at g20 dD;have hb:decide (k+1<(n:Int))=false:=by simpa using dD
 have A1:=(At.refl R).g hx {x with k:=k+1} (q:=24) (v:=I (k+1));rw[he];have HA:=ag ((A1.alloc (.cells #[I o.ai,I o.ch,I o.n,I o.v,.slice ca cn cc,B false] 49)).alloc (.cells #[I (-1)] 3));have HX:Hid ((S.ay g {x with k:=k+1}).gs[g]?=some {x with k:=k+1}):=az hx;have Z3:=ag hx;have HRP:=ag (fun b w h=>(E9 b cn ar0 RG w h).mono (fun e w' h=>(⟨w.heap.size,Nat.le_refl _,h⟩:∃nb,w.heap.size≤nb∧e=.returned (.slice (some ⟨nb,0,none⟩) cn cn)∧w'.heap[nb]?=some (.cells (List.replicate cn (I (-1))).toArray 3 (0,0))∧Below w.heap.size w w')));clear R hx hk hd hn dD A1 he;unfold bR;go_enter func174,ntmps174;go_wp2_with fail
 go_quiet (fail);go_wp2_with fail
 refine(HRP.out _ _ (Md (by simp) _ _)).mono ?_;rintro e w2 ⟨nb,EI,rfl,mA,Ta⟩;have A2:=At.IQ Ta HA.out rfl rfl rfl rfl;have R2:=A2.bj;have p2:=R2.g HX.out 2 _ rfl;have wW:=R2.frozen R2.aB.gs (g*25+2);have Es:=R2.g HX.out 22 _ rfl;have Z4:=R2.frozen R2.aB.gs (g*25+22);have AJ:=R2.g HX.out 24 _ rfl;have AL:=R2.frozen R2.aB.gs (g*25+24);have hl:(List.replicate cn (-1:Int)).length=cn:=by simp
 have B1:=At.Wy (l:=List.replicate cn (-1)) Ta HA.out rfl rfl rfl rfl EI HX.out (by simp;omega) (by rw[List.map_replicate];exact mA);rw[hl,aA]at B1;have B2:=B1.g (az (x:=x) Z3.out) {x with bA:=List.replicate cn (-1),k:=0} (q:=24) (v:=I 0);rw[aA]at B2;have B3:=B2.g (az (x:=x) Z3.out) {x with bA:=List.replicate cn (-1),k:=0,ae:=28} (q:=2) (v:=I 28);rw[aA]at B3;have HB:=ag B3;clear B1 B2 B3 A2 R2 hl mA Ta EI;go_wp2;go_end0;exact⟨rfl,_,HB.out⟩
theorem Px(R:bz af F w m S)(aG:Good S)(g:Nat)(x:bI)(hx:S.gs[g]?=some x)(ch:Int)(bO:eX ch)(hp:x.ae=10)(S':Wd)(hm:rE S g {cK:=true,g:=g,ch:=ch,case:= -1}=some S'):Calls prog 108 #[bR F,I g,I ch] w (ee (To af F m w S')):=by
 have eM:=cA hx;have c2:=R.dM;have c3:=R.eu;have c8:=R.dR;have c9:=R.ed;have aU:=R.lt R.aB.al;have cm:=R.lt R.aB.gs;have fO:=R.lt R.aB.ah;have aY:=R.ne R.aB.al R.aB.gs;have dx:=R.ne R.aB.al R.aB.ah;have aZ:=R.ne R.aB.gs R.aB.al;have ez:=R.ne R.aB.gs R.aB.ah;have dz:=R.ne R.aB.ah R.aB.al;have eB:=R.ne R.aB.ah R.aB.gs;have g2:=R.g hx 2 _ rfl;rw[hp]at g2;have OS:=ag (At.refl R);obtain⟨HG,ie⟩:=dA hx aG;have HM:=ag hm;clear R hx hp aG hm;unfold bR;go_enter func108,ntmps108;go_wp2_with (go_at_call 102;refine(BY OS.out.bj ie.out g _ _ HM.out).mono ?_;rintro e wN ⟨rfl,T⟩;have HZ:=ag T;clear T);go_end0;exact⟨rfl,HZ.out⟩
theorem Py(R:bz af F w m S)(aG:Good S)(g:Nat)(x:bI)(hx:S.gs[g]?=some x)(ch:Int)(bO:eX ch)(hp:x.ae=11)(S2:Wd)(hm:lh S (2*ch-2) x.bY=some S2):Calls prog 108 #[bR F,I g,I ch] w (ee fun w'=>To af F m w (S2.ay g {x with bJ:=S2.av,ae:=12}) w'):=by
 have eM:=cA hx;have c2:=R.dM;have c3:=R.eu;have c8:=R.dR;have c9:=R.ed;have aU:=R.lt R.aB.al;have cm:=R.lt R.aB.gs;have fO:=R.lt R.aB.ah;have aY:=R.ne R.aB.al R.aB.gs;have dx:=R.ne R.aB.al R.aB.ah;have aZ:=R.ne R.aB.gs R.aB.al;have ez:=R.ne R.aB.gs R.aB.ah;have dz:=R.ne R.aB.ah R.aB.al;have eB:=R.ne R.aB.ah R.aB.gs;have g2:=R.g hx 2 _ rfl;have g8:=R.g hx 8 _ rfl;rw[hp]at g2;have OS:=ag (At.refl R);obtain⟨HG,ie⟩:=dA hx aG;obtain⟨mi,Pz⟩:∃mi,x.bY=mi:=⟨_,rfl⟩;rw[Pz]at hm g8;have nU:Hid (S2.gs[g]?=some x):=by obtain⟨q,b,_,rfl⟩:=qk hm;exact hx
 have Me:g<S2.gs.length:=cA nU.out;have HM:=ag hm;have HRC:=ag (fun W=>xB ch bO W);clear R hx hp aG hm Pz;unfold bR;go_enter func108,ntmps108;go_wp2_with fail
 refine wp_region_still_tail 10 (by kernel_rfl) (by kernel_rfl) ?_;change wpStill _ _ w.drew (fun a=>wpList _ _ _ _ a w.drew) _ _;simp only[sS,sX,sU,rC];repeat still_step
 still_call ((HRC.out _).mono fun _ _ h=>⟨h.1,h.2.symm⟩);repeat still_step
 refine wpStill_nil ?_;go_wp2_with (go_at_call 103;refine(yZ (af:=af) (F:=F) (w0:=w) (m0:=m) (m:=m) ?_ HM.out).mono ?_;exact OS.out.aI;rintro e wN ⟨⟨bb,rfl⟩,A0⟩;have RN:=A0.bj;have e2:=RN.dM;have p2:=RN.g nU.out 2 _ rfl;have wW:=RN.frozen RN.aB.gs (g*25+2);have p11:=RN.g nU.out 11 _ rfl;have Z5:=RN.frozen RN.aB.gs (g*25+11);have A1:=A0.g nU.out {x with bJ:=S2.av} (q:=11) (v:=I S2.av);have A2:=A1.g (az nU.out) {x with bJ:=S2.av,ae:=12} (q:=2) (v:=I 12);rw[aA]at A2;have HA:=ag A2;clear A1 A2;clear A0 RN);go_end0;exact⟨rfl,m,HA.out⟩
theorem Mf(R:bz af F w m S)(aG:Good S)(g:Nat)(x:bI)(hx:S.gs[g]?=some x)(ch:Int)(bO:eX ch)(hp:x.ae=14)(s:Nat)(hs:x.aN=s)(sd:gn)(eo:S.ah[s]?=some sd)(hd:sd.done=true):Calls prog 108 #[bR F,I g,I ch] w (ee fun w'=>To af F m w (S.ay g {x with res:={aJ:=1,case:= -1,v:=sd.v,ok:=true},aN:= -1,ae:=15}) w'):=by
 have eM:=cA hx;have c2:=R.dM;have c3:=R.eu;have c8:=R.dR;have c9:=R.ed;have aU:=R.lt R.aB.al;have cm:=R.lt R.aB.gs;have fO:=R.lt R.aB.ah;have aY:=R.ne R.aB.al R.aB.gs;have dx:=R.ne R.aB.al R.aB.ah;have aZ:=R.ne R.aB.gs R.aB.al;have ez:=R.ne R.aB.gs R.aB.ah;have dz:=R.ne R.aB.ah R.aB.al;have eB:=R.ne R.aB.ah R.aB.gs;obtain⟨g2,xV⟩:=R.ef hx 2 _ rfl;obtain⟨g15,tT⟩:=R.ef hx 15 _ rfl;obtain⟨g16,tU⟩:=R.ef hx 16 _ rfl;obtain⟨g17,tV⟩:=R.ef hx 17 _ rfl;obtain⟨g18,tW⟩:=R.ef hx 18 _ rfl;obtain⟨g19,tX⟩:=R.ef hx 19 _ rfl;rw[hp]at g2;have OS:=ag (At.refl R);obtain⟨HG,ie⟩:=dA hx aG;have mj:s<S.ah.length:=cA eo;obtain⟨HS,qH,HD⟩:=ij hs eo hd;have HB:=ag (OS.out.res HG.out {aJ:=1,case:= -1});clear R hx hp aG eo hd hs;unfold bR;go_enter func108,ntmps108;go_wp2_with fail
 obtain⟨w1,jk,A1⟩:∃w1,w1=_∧At af F m w m w1 _:=⟨_,rfl,HB.out⟩;rw[←jk];have IS:Hid ((S.ay g {x with res:={aJ:=1,case:= -1}}).gs[g]?=some {x with res:={aJ:=1,case:= -1}}):=az HG.out;have R1:=A1.bj;have d9:=R1.ed;have l1:=R1.lt R1.aB.gs;have l2:=R1.lt R1.aB.ah;have l3:=R1.lt R1.aB.al;have d3:=R1.eu;have k2:=R1.g IS.out 2 _ rfl;have kf2:=R1.frozen R1.aB.gs (g*25+2);have k7:=R1.g IS.out 7 _ rfl;have kf7:=R1.frozen R1.aB.gs (g*25+7);have k17:=R1.g IS.out 17 _ rfl;have ar1:=R1.frozen R1.aB.gs (g*25+17);have k18:=R1.g IS.out 18 _ rfl;have ar2:=R1.frozen R1.aB.gs (g*25+18);rw[show({x with res:={aJ:=1,case:= -1}}:bI).aN=x.aN from rfl,HS.out]at k7;rw[show(S.ay g {x with res:={aJ:=1,case:= -1}}).ah.length=S.ah.length from rfl]at d9;rw[show(S.ay g {x with res:={aJ:=1,case:= -1}}).gs.length=S.gs.length by simp[Wd.ay]]at d3;have sn:(S.ay g {x with res:={aJ:=1,case:= -1}}).ah[s]?=some sd:=qH.out;have s0:=R1.s0 sn;have s1:=R1.s sn 1 _ rfl;have s2:=R1.s sn 2 _ rfl;have s3:=R1.s sn 3 _ rfl;have s4:=R1.s sn 4 _ rfl;have s5:=R1.s sn 5 _ rfl;have s6:=R1.s sn 6 _ rfl;rw[HD.out]at s6;have B1:=A1.g IS.out {x with res:={aJ:=1,case:= -1,v:=sd.v}} (q:=17) (v:=I sd.v);have B2:=B1.g (az IS.out) {x with res:={aJ:=1,case:= -1,v:=sd.v,ok:=true}} (q:=18) (v:=B true);rw[aA]at B2;have B3:=B2.g (az IS.out) {x with res:={aJ:=1,case:= -1,v:=sd.v,ok:=true},aN:= -1} (q:=7) (v:=I (-1));rw[aA]at B3;have B4:=B3.g (az IS.out) {x with res:={aJ:=1,case:= -1,v:=sd.v,ok:=true},aN:= -1,ae:=15} (q:=2) (v:=I 15);rw[aA]at B4;have HA:=ag B4;clear B1 B2 B3 B4;clear R1 sn A1 jk;go_region
 all_goals
  go_wp2;go_end0;try simp only[Nat.add_assoc,Nat.reduceAdd]
  refine⟨by trivial,m,At.eq (At.aI (HA.out.alloc (.cells #[B sd.cK,I sd.g,I sd.ch,I sd.case,B sd.cF,I sd.v,B true] 105)) ?_ ?_ ?_ ?_) ?_⟩<;>first|rfl|(simp[Wd.ay,my])
theorem Mg(R:bz af F w m S)(aG:Good S)(g:Nat)(x:bI)(hx:S.gs[g]?=some x)(ch:Int)(bO:eX ch)(hp:x.ae=14)(s:Nat)(hs:x.aN=s)(sd:gn)(eo:S.ah[s]?=some sd)(hd:sd.done=false):Calls prog 108 #[bR F,I g,I ch] w (ee fun w'=>To af F m w (S.ay g {x with res:={aJ:=1,case:= -1},aN:= -1,ae:=15}) w'):=by
 have eM:=cA hx;have c2:=R.dM;have c3:=R.eu;have c8:=R.dR;have c9:=R.ed;have aU:=R.lt R.aB.al;have cm:=R.lt R.aB.gs;have fO:=R.lt R.aB.ah;have aY:=R.ne R.aB.al R.aB.gs;have dx:=R.ne R.aB.al R.aB.ah;have aZ:=R.ne R.aB.gs R.aB.al;have ez:=R.ne R.aB.gs R.aB.ah;have dz:=R.ne R.aB.ah R.aB.al;have eB:=R.ne R.aB.ah R.aB.gs;obtain⟨g2,xV⟩:=R.ef hx 2 _ rfl;obtain⟨g15,tT⟩:=R.ef hx 15 _ rfl;obtain⟨g16,tU⟩:=R.ef hx 16 _ rfl;obtain⟨g17,tV⟩:=R.ef hx 17 _ rfl;obtain⟨g18,tW⟩:=R.ef hx 18 _ rfl;obtain⟨g19,tX⟩:=R.ef hx 19 _ rfl;rw[hp]at g2;have OS:=ag (At.refl R);obtain⟨HG,ie⟩:=dA hx aG;have mj:s<S.ah.length:=cA eo;obtain⟨HS,qH,HD⟩:=ij hs eo hd;have HB:=ag (OS.out.res HG.out {aJ:=1,case:= -1});clear R hx hp aG eo hd hs;unfold bR;go_enter func108,ntmps108;go_wp2_with fail
 obtain⟨w1,jk,A1⟩:∃w1,w1=_∧At af F m w m w1 _:=⟨_,rfl,HB.out⟩;rw[←jk];have IS:Hid ((S.ay g {x with res:={aJ:=1,case:= -1}}).gs[g]?=some {x with res:={aJ:=1,case:= -1}}):=az HG.out;have R1:=A1.bj;have d9:=R1.ed;have l1:=R1.lt R1.aB.gs;have l2:=R1.lt R1.aB.ah;have l3:=R1.lt R1.aB.al;have d3:=R1.eu;have k2:=R1.g IS.out 2 _ rfl;have kf2:=R1.frozen R1.aB.gs (g*25+2);have k7:=R1.g IS.out 7 _ rfl;have kf7:=R1.frozen R1.aB.gs (g*25+7);have k17:=R1.g IS.out 17 _ rfl;have ar1:=R1.frozen R1.aB.gs (g*25+17);have k18:=R1.g IS.out 18 _ rfl;have ar2:=R1.frozen R1.aB.gs (g*25+18);rw[show({x with res:={aJ:=1,case:= -1}}:bI).aN=x.aN from rfl,HS.out]at k7;rw[show(S.ay g {x with res:={aJ:=1,case:= -1}}).ah.length=S.ah.length from rfl]at d9;rw[show(S.ay g {x with res:={aJ:=1,case:= -1}}).gs.length=S.gs.length by simp[Wd.ay]]at d3;have sn:(S.ay g {x with res:={aJ:=1,case:= -1}}).ah[s]?=some sd:=qH.out;have s0:=R1.s0 sn;have s1:=R1.s sn 1 _ rfl;have s2:=R1.s sn 2 _ rfl;have s3:=R1.s sn 3 _ rfl;have s4:=R1.s sn 4 _ rfl;have s5:=R1.s sn 5 _ rfl;have s6:=R1.s sn 6 _ rfl;rw[HD.out]at s6;have B1:=A1.g IS.out {x with res:={aJ:=1,case:= -1},aN:= -1} (q:=7) (v:=I (-1));have B2:=B1.g (az IS.out) {x with res:={aJ:=1,case:= -1},aN:= -1,ae:=15} (q:=2) (v:=I 15);rw[aA]at B2;have HA:=ag B2;clear B1 B2;clear R1 sn A1 jk;go_region
 all_goals
  go_wp2;go_end0;try simp only[Nat.add_assoc,Nat.reduceAdd]
  refine⟨by trivial,m,At.eq (At.aI (HA.out.alloc (.cells #[B sd.cK,I sd.g,I sd.ch,I sd.case,B sd.cF,I sd.v,B false] 105)) ?_ ?_ ?_ ?_) ?_⟩<;>first|rfl|(simp[Wd.ay,my])
theorem IT(R:bz af F w m S)(aG:Good S)(g:Nat)(x:bI)(hx:S.gs[g]?=some x)(ch:Int)(bO:eX ch)(hp:x.ae=10∨x.ae=11∨x.ae=14)(S':Wd)(hm:j1 S g ch=some S'):Calls prog 108 #[.pointer (some ⟨F.al,0,none⟩),I g,I ch] w (ee (To af F m w S')):=by
 unfold j1 at hm;simp only[bW,hx,eN]at hm;by_cases ph:x.ae=10
 ·rw[aF ph]at hm;exact Px R aG g x hx ch bO ph _ hm
 rw[aE ph]at hm;by_cases rA:x.ae=11
 ·rw[aF rA]at hm;unfold rF at hm;simp only[bW,cI,hx,oZ,exists_eq_left']at hm;obtain⟨S2,h2,hm⟩:=hm;subst hm;exact Py R aG g x hx ch bO rA _ h2
 rw[aE rA]at hm;simp only[cI,oZ]at hm;obtain⟨s,hs,sd,eo,hm⟩:=hm;subst hm
 cases hd:sd.done with
 |true=>exact Mf R aG g x hx ch bO (by omega) s (du hs) sd eo hd
 |false=>exact Mg R aG g x hx ch bO (by omega) s (du hs) sd eo hd
theorem At.cl(A:At af F m0 w0 m w S){cb c:Nat}(fP:m.aV .aO=some cb)(b:Bool):At af F m0 w0 m (w.setCell ⟨cb,c,none⟩ (B b)) {S with aO:=S.aO.set c b}:=by
 refine A.set (r:=.aO) fP (by simp only[aj,List.map_set]) ?_;intro r' hT
 cases r'<;>first|exact aX rfl hT|rfl|(simp only[aj,kI];done)
theorem Wz(R:bz af F w m S)(aG:Good S)(g:Nat)(x:bI)(hx:S.gs[g]?=some x)(ch:Int)(bO:eX ch)(gv:cZ S ch=true)(mP:dK S ch=true):Calls prog 109 #[bR F,I g,I ch] w (ee fun w'=>At af F m w m w' (S.ay g {x with point:=S.av,res:={aJ:=4,case:= -1},ae:=16})):=by
 have eM:=cA hx;have c2:=R.dM;have c3:=R.eu;obtain⟨g2,xV⟩:=R.ef hx 2 _ rfl;obtain⟨g12,xC⟩:=R.ef hx 12 _ rfl;obtain⟨g15,tT⟩:=R.ef hx 15 _ rfl;obtain⟨g16,tU⟩:=R.ef hx 16 _ rfl;obtain⟨g17,tV⟩:=R.ef hx 17 _ rfl;obtain⟨g18,tW⟩:=R.ef hx 18 _ rfl;obtain⟨g19,tX⟩:=R.ef hx 19 _ rfl;obtain⟨aU,cm,aY,aZ⟩:=R.pB;have A0:=At.refl R;have HX:=ag hx;have A1:=A0.g HX.out {x with point:=S.av} (q:=12) (v:=I S.av);have HM:Hid (Calls prog 138 #[.pointer (some ⟨F.al,0,none⟩),I ch] (w.setCell ⟨F.gs,g*25+12,none⟩ (I S.av)) fun e w'=>e=.returned (.bool (cZ S ch))∧w.setCell ⟨F.gs,g*25+12,none⟩ (I S.av)=w'):=ag (gJ A1.bj ch);obtain⟨c,b,hc,hb,gm⟩:=qI aG gv;rw[gm]at mP;subst mP;obtain⟨cb,fP,c6,cx⟩:=R.ka hb;have De:c<S.aO.length:=cA hb;have hs:IntKind.i64.wrap ((c:Int)+1-1)=(c:Int):=by rw[jX _ (by omega)];omega
 have ar3:=R.lt fP;have Km:cb≠F.gs:=R.ne fP R.aB.gs;have Nu:cb≠F.al:=R.ne fP R.aB.al;have ne3:=Km.symm;have ne4:=Nu.symm;have fcb:=R.frozen fP c;rw[gv]at HM;subst hc;have B1:=A1.res (az HX.out) {aJ:=4,case:= -1};rw[aA]at B1;have B2:=B1.g (az HX.out) {x with point:=S.av,res:={aJ:=4,case:= -1},ae:=16} (q:=2) (v:=I 16);rw[aA]at B2;have HA:=ag B2;clear B1 B2;clear R aG hx A0 A1 hb fP gm gv;unfold bR;go_enter func109,ntmps109;go_wp2_with (go_at_call 138;refine HM.out.mono ?_;rintro e w1 ⟨rfl,rfl⟩);refine bodyPost_ret (results_none rfl _ _ _) rfl ?_;exact⟨rfl,HA.out.aI⟩
theorem WB(R:bz af F w m S)(aG:Good S)(g:Nat)(x:bI)(hx:S.gs[g]?=some x)(ch:Int)(bO:eX ch)(gv:cZ S ch=true)(mP:dK S ch=false)(cl:List Bool)(De:Mach.put S.aO (ch-1) true=some cl):Calls prog 109 #[bR F,I g,I ch] w (ee fun w'=>At af F m w m w' (({S with aO:=cl}:Wd).ay g {x with point:=S.av,res:={aJ:=1,case:= -1,ok:=true},ae:=22})):=by
 have eM:=cA hx;have c2:=R.dM;have c3:=R.eu;obtain⟨g2,xV⟩:=R.ef hx 2 _ rfl;obtain⟨g12,xC⟩:=R.ef hx 12 _ rfl;obtain⟨g15,tT⟩:=R.ef hx 15 _ rfl;obtain⟨g16,tU⟩:=R.ef hx 16 _ rfl;obtain⟨g17,tV⟩:=R.ef hx 17 _ rfl;obtain⟨g18,tW⟩:=R.ef hx 18 _ rfl;obtain⟨g19,tX⟩:=R.ef hx 19 _ rfl;obtain⟨aU,cm,aY,aZ⟩:=R.pB;have A0:=At.refl R;have HX:=ag hx;have A1:=A0.g HX.out {x with point:=S.av} (q:=12) (v:=I S.av);have HM:Hid (Calls prog 138 #[.pointer (some ⟨F.al,0,none⟩),I ch] (w.setCell ⟨F.gs,g*25+12,none⟩ (I S.av)) fun e w'=>e=.returned (.bool (cZ S ch))∧w.setCell ⟨F.gs,g*25+12,none⟩ (I S.av)=w'):=ag (gJ A1.bj ch);have Z6:=De;clear De;obtain⟨c,b,hc,hb,gm⟩:=qI aG gv;rw[gm]at mP;subst mP;obtain⟨cb,fP,c6,cx⟩:=R.ka hb;have ar4:c<S.aO.length:=cA hb;have hs:IntKind.i64.wrap ((c:Int)+1-1)=(c:Int):=by rw[jX _ (by omega)];omega
 have ar3:=R.lt fP;have Km:cb≠F.gs:=R.ne fP R.aB.gs;have Nu:cb≠F.al:=R.ne fP R.aB.al;have ne3:=Km.symm;have ne4:=Nu.symm;have fcb:=R.frozen fP c;rw[gv]at HM;subst hc;rw[show(c:Int)+1-1=(c:Int)by omega,RZ ar4]at Z6
 cases Z6;have eE:(S.ay g {x with point:=S.av}).gs[g]?=some {x with point:=S.av}:=az HX.out
 have A2:=A1.cl (c:=c) fP true;have kt:({(S.ay g {x with point:=S.av})with aO:=(S.ay g {x with point:=S.av}).aO.set c true}:Wd).gs[g]?=some {x with point:=S.av}:=eE;have B1:=A2.res kt {aJ:=1,case:= -1,ok:=true};have B2:=B1.g (az kt) {x with point:=S.av,res:={aJ:=1,case:= -1,ok:=true},ae:=22} (q:=2) (v:=I 22);have HA:=ag (B2.eq (S':=(({S with aO:=S.aO.set c true}:Wd).ay g {x with point:=S.av,res:={aJ:=1,case:= -1,ok:=true},ae:=22})) (by simp[Wd.ay,my]));clear B1 B2 A2 eE kt;clear R aG hx A0 A1 hb fP gm gv;unfold bR;go_enter func109,ntmps109;go_wp2_with (go_at_call 138;refine HM.out.mono ?_;rintro e w1 ⟨rfl,rfl⟩);go_end0;exact⟨rfl,HA.out.aI⟩
theorem WC(R:bz af F w m S)(aG:Good S)(g:Nat)(x:bI)(hx:S.gs[g]?=some x)(ch:Int)(bO:eX ch)(gv:cZ S ch=false):Calls prog 109 #[bR F,I g,I ch] w (ee fun w'=>At af F m w m w' (S.ay g {x with point:=S.av,res:={aJ:=1,case:= -1,ok:=true},ae:=22})):=by
 have eM:=cA hx;have c2:=R.dM;have c3:=R.eu;obtain⟨g2,xV⟩:=R.ef hx 2 _ rfl;obtain⟨g12,xC⟩:=R.ef hx 12 _ rfl;obtain⟨g15,tT⟩:=R.ef hx 15 _ rfl;obtain⟨g16,tU⟩:=R.ef hx 16 _ rfl;obtain⟨g17,tV⟩:=R.ef hx 17 _ rfl;obtain⟨g18,tW⟩:=R.ef hx 18 _ rfl;obtain⟨g19,tX⟩:=R.ef hx 19 _ rfl;obtain⟨aU,cm,aY,aZ⟩:=R.pB;have A0:=At.refl R;have HX:=ag hx;have A1:=A0.g HX.out {x with point:=S.av} (q:=12) (v:=I S.av);have HM:Hid (Calls prog 138 #[.pointer (some ⟨F.al,0,none⟩),I ch] (w.setCell ⟨F.gs,g*25+12,none⟩ (I S.av)) fun e w'=>e=.returned (.bool (cZ S ch))∧w.setCell ⟨F.gs,g*25+12,none⟩ (I S.av)=w'):=ag (gJ A1.bj ch);rw[gv]at HM;have B1:=A1.res (az HX.out) {aJ:=1,case:= -1,ok:=true};rw[aA]at B1;have B2:=B1.g (az HX.out) {x with point:=S.av,res:={aJ:=1,case:= -1,ok:=true},ae:=22} (q:=2) (v:=I 22);rw[aA]at B2;have HA:=ag B2;clear B1 B2;clear R aG hx A0 A1 gv;unfold bR;go_enter func109,ntmps109;go_wp2_with (go_at_call 138;refine HM.out.mono ?_;rintro e w1 ⟨rfl,rfl⟩);go_end0;exact⟨rfl,HA.out.aI⟩
theorem Mh(R:bz af F w m S)(aG:Good S)(g:Nat)(ch:Int)(bO:eX ch)(S':Wd)(hm:uD S g ch=some S'):Calls prog 109 #[.pointer (some ⟨F.al,0,none⟩),I g,I ch] w (ee fun w'=>At af F m w m w' S'):=by
 unfold uD at hm;simp only[bW,cI]at hm;obtain⟨x,hx,hm⟩:=hm
 cases mP:dK S ch with
 |true=>
  have gv:cZ S ch=true:=by unfold dK at mP;simp only[qs]at mP;exact mP.1
  rw[mP,aF rfl]at hm
  cases hm;exact Wz R aG g x hx ch bO gv mP
 |false=>
  rw[mP,aE (by simp)]at hm
  cases gv:cZ S ch with
  |true=>
   rw[gv,aF rfl]at hm;simp only[cI,me]at hm;obtain⟨S2,⟨cl,gm,rfl⟩,hm⟩:=hm
   cases hm;exact WB R aG g x hx ch bO gv mP cl gm
  |false=>
   rw[gv,aE (by simp)]at hm
   cases hm;exact WC R aG g x hx ch bO gv
theorem PA{g:Nat}{S':Wd}(hm:yo S g=some S'):∃x s S3 sd z y,S.gs[g]?=some x∧x.br=(s:Nat)∧fZ (S.ay g {x with t:=S.av}) s=some S3∧S3.ah[s]?=some sd∧sd.g=(z:Nat)∧S3.gs[z]?=some y∧z≠g∧Mach.serve (S3.ay z {y with point:=S3.av,fire:=sd.case}) g s false=some S':=by
 unfold yo at hm;simp only[bW,cI]at hm;obtain⟨x,hx,s,hs,S3,h3,sd,eo,z,hz,y,hy,hm⟩:=hm;by_cases mh:z=g
 ·rw[aF mh]at hm;cases hm
 rw[aE mh]at hm;exact⟨x,s,S3,sd,z,y,hx,du hs,h3,eo,du hz,hy,mh,hm⟩
theorem PB(R:bz af F w m S)(g:Nat)(S':Wd)(hm:yo S g=some S'):Calls prog 168 #[bR F,I g] w (ee (To af F m w S')):=by
 obtain⟨x,s,S3,sd,z,y,hx,hs,h3,eo,hz,hy,mh,h4⟩:=PA hm;have eM:=cA hx;have c2:=R.dM;have c3:=R.eu;have c8:=R.dR;have g9:=R.g hx 9 _ rfl;obtain⟨g10,Zv⟩:=R.ef hx 10 _ rfl;obtain⟨aU,cm,aY,aZ⟩:=R.pB;rw[hs]at g9;have A1:=(At.refl R).g hx {x with t:=S.av} (q:=10) (v:=I S.av);have ri:=ag A1;have hq3:S3.gs[g]?=some {x with t:=S.av}∧S3.gs.length=S.gs.length∧S3.av=S.av∧S3.ah=S.ah:=by obtain⟨q,b,_,rfl⟩:=mF h3;exact⟨az hx,by simp[Wd.ay],rfl,rfl⟩
 obtain⟨nM,XG,Z7,ar5⟩:=hq3;have Ay:z<S3.gs.length:=cA hy;have mj:s<S3.ah.length:=cA eo;obtain⟨oh,HY,qH,HZ,H3,H4⟩:=mr nM hy eo hz h3 h4;have pI:=ag Z7;have o1:¬z*25+12=g*25+10:=by omega
 have o2:¬z*25+14=g*25+10:=by omega
 have aA8:g<S3.gs.length:=by omega
 rw[←XG]at c3;clear R hx hs A1 nM hy eo hz h3 h4 hm Z7 ar5 XG eM;unfold bR;go_enter func168,ntmps168;go_wp2_with (go_at_call 150;refine(kv ri.out H3.out).mono ?_;rintro e w2 ⟨⟨b,rfl⟩,A2⟩;have R2:=A2.bj;have d2:=R2.dM;have d3:=R2.eu;have d9:=R2.ed;have l1:=R2.lt R2.aB.al;have l2:=R2.lt R2.aB.gs;have l3:=R2.lt R2.aB.ah;have n1:=R2.ne R2.aB.al R2.aB.gs;have n2:=R2.ne R2.aB.ah R2.aB.gs;have n3:=n1.symm;have n4:=n2.symm;have p10:=R2.g oh.out 10 _ rfl;have q12:=R2.g HY.out 12 _ rfl;have aA9:=R2.frozen R2.aB.gs (z*25+12);have q14:=R2.g HY.out 14 _ rfl;have aB0:=R2.frozen R2.aB.gs (z*25+14);have s1:=R2.s qH.out 1 _ rfl;have s3:=R2.s qH.out 3 _ rfl;rw[HZ.out]at s1;have nx:=ag A2;clear A2 R2);have B1:=nx.out.g HY.out {y with point:=S.av} (q:=12) (v:=I S.av);have B2:=B1.g (az HY.out) {y with point:=S.av,fire:=sd.case} (q:=14) (v:=I sd.case);rw[aA]at B2;rw[pI.out]at H4;have HB:=ag B2;clear B1 B2;go_quiet (fail);go_wp2_with (go_at_call 152;refine(OQ (af:=af) (F:=F) (m0:=m) (w0:=w) (m:=m) ?_ H4.out).mono ?_;exact HB.out.aI;rintro e w3 ⟨rfl,mN,A3⟩;have HC:=ag A3;clear A3);go_end0;exact⟨rfl,mN,HC.out⟩
end
theorem FQ(w:World):Calls prog 71 #[I 9] w (eL (.bool false) fun w'=>w=w'):=by
 go_enter func71,ntmps71;go_wp2;go_ret;exact⟨rfl,rfl⟩
theorem FR(b c:Nat)(w:World)(h:w.cell? ⟨b,0,none⟩=some (I 9)):Calls prog 130 #[.slice (some ⟨b,0,none⟩) 1 c,.func (.func 71) #[] #[]] w (eL (I (-1)) fun w'=>w=w'):=by
 have HI:=ag FQ;go_enter func130,ntmps130;go_wp2;go_loopw [4,5,8] (fun r v i wr=>∃k:Nat,i=.int .i64 k∧k≤1∧wr=w) (fun r v i _=>1-(intOf i).toNat)
 case atStart=>exact⟨0,rfl,by omega,rfl⟩
 case round=>
  obtain⟨k,rfl,hk,rfl⟩:=hrel;by_cases dD:k<1
  ·obtain rfl:k=0:=by omega
   go_wp2_with (go_at_call 71;refine(HI.out _).mono ?_;rintro e w2 ⟨rfl,rfl⟩);go_roundw
   case rel=>exact⟨1,rfl,by omega,trivial⟩
   case measure=>simp[intOf]
  ·obtain rfl:k=1:=by omega
   go_wp2;go_ret;exact⟨rfl,rfl⟩
theorem zl(b c:Nat)(w:World)(h:w.cell? ⟨b,0,none⟩=some (I 9)):Calls prog 72 #[.slice (some ⟨b,0,none⟩) 1 c,.func (.func 71) #[] #[]] w (eL (.bool false) fun w'=>w=w'):=by
 have HI:=ag (FR b c w h);clear h;go_enter func72,ntmps72;go_wp2_with (go_at_call 130;refine HI.out.mono ?_;rintro e w2 ⟨rfl,rfl⟩);go_ret;exact⟨rfl,rfl⟩
theorem FT(b c:Nat)(w:World)(h:w.cell? ⟨b,0,none⟩=some (I 9)):Calls prog 38 #[.slice (some ⟨b,0,none⟩) 1 c,I 14] w (oV fun w'=>w=w'):=by
 have HI:=ag (zl b c w h);clear h;go_enter func38,ntmps38;go_wp2_with (go_at_call 72;refine HI.out.mono ?_;rintro e w2 ⟨rfl,rfl⟩);go_ret;exact⟨rfl,rfl⟩
def WD(o:cu):List Value:=[I o.ai,I o.ch,I o.n,I o.v,.slice none 0 0,B o.dG]
def so:List cu→List Value
 | []=>[]
 |o::l=>WD o++so l
structure Z8(w wr:World)(v1 v2:Value)(l1 l2:List cu)(aV:Bool→Option Nat)(cap:Bool→Nat)(ct:Bool→List Value):Prop where
 own:cN w.heap.size w wr aV (fun _=>some (49,6)) cap ct
 h1:v1=nG (aV true) l1.length (cap true)
 c1:ct true=so l1
 h2:v2=nG (aV false) l2.length (cap false)
 c2:ct false=so l2
def ir(w wr:World)(v1 v2:Value)(l1 l2:List cu):Prop:=∃aV cap ct,Z8 w wr v1 v2 l1 l2 aV cap ct
theorem zm:∀l:List cu,(so l).length=l.length*6
 | []=>rfl
 |o::l=>by unfold so;rw[py,zm l,sV,show(WD o).length=6 from rfl];omega
theorem wz:∀(l:List cu) (o:cu),so (l++[o])=so l++WD o
 | [],o=>by simp[so]
 |a::l,o=>by rw[sY];unfold so;rw[wz l o,List.append_assoc]
section
variable{w wr w':World}{v1 v2:Value}{l1 l2:List cu}
theorem ir.start:ir w w (.slice none 0 0) (.slice none 0 0) [] []:=⟨_,_,_,cN.nil _ _ cG _,rfl,rfl,rfl,rfl⟩
theorem ir.alloc(H:ir w wr v1 v2 l1 l2)(o:Obj):ir w (wr.alloc o) v1 v2 l1 l2:=by
 obtain⟨aV,cap,ct,H⟩:=H;exact⟨aV,cap,ct,{H with own:=H.own.alloc o}⟩
theorem ir.Z9(H:ir w wr v1 v2 l1 l2):wr.ownsRow w.heap.size 49 6 v1 l1.length (so l1):=by
 obtain⟨aV,cap,ct,H⟩:=H;rw[H.h1,←H.c1];exact H.own.owns (k:=true) (p:=(49,6)) rfl (by decide) (by rw[H.c1];exact zm l1)
theorem ir.aa0(H:ir w wr v1 v2 l1 l2):wr.ownsRow w.heap.size 49 6 v2 l2.length (so l2):=by
 obtain⟨aV,cap,ct,H⟩:=H;rw[H.h2,←H.c2];exact H.own.owns (k:=false) (p:=(49,6)) rfl (by decide) (by rw[H.c2];exact zm l2)
theorem ir.lo(H:ir w wr v1 v2 l1 l2):w.heap.size≤wr.heap.size∧Below w.heap.size w wr:=by
 obtain⟨aV,cap,ct,H⟩:=H;exact⟨H.own.tL,H.own.below⟩
theorem ir.U6(H:ir w wr v1 v2 l1 l2){o:cu}{g cp n:Nat}(hn:n=l1.length+1)(hg:wr.grownBy w' v1.ownBlock)(hown:w'.ownsRow w.heap.size 49 6 (.slice (some ⟨g,0,none⟩) n cp) n (so l1++WD o))(gp:v1.ownBlock=some g∨wr.heap.size≤g):ir w w' (.slice (some ⟨g,0,none⟩) n cp) v2 (l1++[o]) l2:=by
 obtain⟨aV,cap,ct,H⟩:=H;rw[H.h1,gV]at hg gp;have O:=H.own.row (r:=true) (p:=(49,6)) (fun q h=>by cases h;rfl) hg hown gp;refine⟨_,_,_,O,?_,?_,?_,?_⟩
 ·rw[bq,bq,hn,py];rfl
 ·rw[bq,wz]
 ·rw[aD _ _ (by decide),aD _ _ (by decide)];exact H.h2
 ·rw[aD _ _ (by decide)];exact H.c2
theorem ir.U7(H:ir w wr v1 v2 l1 l2){o:cu}{g cp n:Nat}(hn:n=l2.length+1)(hg:wr.grownBy w' v2.ownBlock)(hown:w'.ownsRow w.heap.size 49 6 (.slice (some ⟨g,0,none⟩) n cp) n (so l2++WD o))(gp:v2.ownBlock=some g∨wr.heap.size≤g):ir w w' v1 (.slice (some ⟨g,0,none⟩) n cp) l1 (l2++[o]):=by
 obtain⟨aV,cap,ct,H⟩:=H;rw[H.h2,gV]at hg gp;have O:=H.own.row (r:=false) (p:=(49,6)) (fun q h=>by cases h;rfl) hg hown gp;refine⟨_,_,_,O,?_,?_,?_,?_⟩
 ·rw[aD _ _ (by decide),aD _ _ (by decide)];exact H.h1
 ·rw[aD _ _ (by decide)];exact H.c1
 ·rw[bq,bq,hn,py];rfl
 ·rw[bq,wz]
theorem FU:∀(l:List cu) (j:Nat) (o:cu),l[j]?=some o→∀t v,(WD o)[t]?=some v→(so l)[j*6+t]?=some v
 | [],j,o,h,_,_,_=>by cases h
 |a::l,0,o,h,t,v,hv=>by simp at h;subst h;unfold so;rw[Ev (by have:=cA hv;omega),Nat.zero_mul,Nat.zero_add];exact hv
 |a::l,j+1,o,h,t,v,hv=>by unfold so;rw[Ew (by show 6≤_;omega),show(WD a).length=6 from rfl,show(j+1)*6+t-6=j*6+t by omega];exact FU l j o (by simpa using h) t v hv
theorem PC{b n c:Nat}{l:List cu}(hl:l.length≤100)(Dj:∀o∈l,o.cases=[])(hI:∀o∈l,pW o.ai∧pW o.ch∧pW o.n∧pW o.v)(hc:∀j u,(so l)[j]?=some u→w.cell? ⟨b,j,none⟩=some u):kC w (some ⟨b,0,none⟩) l:=by
 refine⟨by omega,fun j o ho=>⟨b,0,none,0,rfl,?_⟩⟩;have hm:=lf ho;obtain⟨i1,i2,i3,i4⟩:=hI o hm;have h0:=Dj o hm;have hg:=fun t v hv=>hc _ _ (FU l j o ho t v hv)
 simp only[Nat.zero_add];refine⟨hg 0 _ rfl,hg 1 _ rfl,hg 2 _ rfl,hg 3 _ rfl,by rw[h0];exact hg 4 _ rfl,hg 5 _ rfl,⟨by rw[h0];decide,fun k c hk=>by rw[h0]at hk;cases hk⟩,i1,i2,i3,i4⟩
end
def FV:List cu:=[{ai:=2,ch:=1,v:=9},{ai:=6,ch:=1}]
def FW:List cu:=[{ai:=3,ch:=1},{ai:=3,ch:=1}]
theorem zo(b:Nat)(w:World)(h:w.cell? ⟨b,0,none⟩=some (I 9)):Calls prog 19 #[.slice (some ⟨b,0,none⟩) 1 1] w fun e w'=>∃a c,e=.returned (.slice a 2 c)∧eW w' a [FV,FW]∧Below w.heap.size w w':=by
 obtain⟨i0,hi,fV,gF,gG⟩:=info_parts Oe;have HR:=ag (FT b 1 w h);have HC:=ag h
 have dD:b<w.heap.size:=by
  rcases Nat.lt_or_ge b w.heap.size with h1|h1
  ·exact h1
  ·simp[World.cell?,Array.getElem?_eq_none h1]at h
 have XO:=ag dD;clear h dD;go_enter func19,ntmps19;go_wp2_with (go_at_call 38;refine HR.out.mono ?_;rintro e w2 ⟨rfl,rfl⟩);have h0:Hid (ir w w (.slice none 0 0) (.slice none 0 0) (FV.take 0) (FW.take 0)):=ir.start;go_loopw [3,4,12] (fun s r i wr=>∃(k:Nat) (a1:Option Addr) (q1:Nat) (a2:Option Addr) (q2:Nat),s=.slice a1 k q1∧r=.slice a2 k q2∧i=.int .i64 k∧k≤1∧Hid (ir w wr (.slice a1 k q1) (.slice a2 k q2) (FV.take k) (FW.take k))) (fun s r i _=>1-(intOf i).toNat)
 case atStart=>exact⟨0,none,0,none,0,rfl,rfl,rfl,by omega,h0⟩
 case round=>
  clear h0;obtain⟨k,a1,q1,a2,q2,rfl,rfl,rfl,hk,HP⟩:=hrel;have qq:=HP.out.lo.1;by_cases dD:k<1
  ·obtain rfl:k=0:=by omega
   have c0:wr.cell? ⟨b,0,none⟩=some (I 9):=cw HP.out.lo.2 cG _ _ HC.out;have HO:=ag HP.out.Z9;go_upto_region 7 with fail
   go_wp2_with (first
    |(at_builtin;go_loud (refine gY (us:=#[I 2,I 1,I 0,I 9,.slice none 0 0,B false]) (w2:=wr) rfl (.tmp 16) (.tmp 19) 50 rfl underlying50 hi fV gF gG rfl (by decide) (by decide) rfl rfl (by simp[Value.oneCell']) (.slice a1 0 q1) 0 _ rfl HO.out wr.heap.size rfl rfl (by omega) qq ?_);intro g cp w3 hown kX gp;have Eo:=ag ((HP.out.alloc (.cells #[I 2,I 1,I 0,I 9,.slice none 0 0,B false] 49)).U6 (o:={ai:=2,ch:=1,v:=9}) rfl kX hown gp);have Iq:=ag Eo.out.aa0;have PD:=Eo.out.lo.1;clear hown kX gp HO)
    |(at_builtin;go_loud (refine gY (us:=#[I 3,I 1,I 0,I 0,.slice none 0 0,B false]) (w2:=w3) rfl (.tmp 21) (.tmp 23) 50 rfl underlying50 hi fV gF gG rfl (by decide) (by decide) rfl rfl (by simp[Value.oneCell']) (.slice a2 0 q2) 0 _ rfl Iq.out w3.heap.size rfl rfl (by omega) PD ?_);intro g2 On w4 hown kX gp;have G6:=ag ((Eo.out.alloc (.cells #[I 3,I 1,I 0,I 0,.slice none 0 0,B false] 49)).U7 (o:={ai:=3,ch:=1}) rfl kX hown gp);clear hown kX gp Iq))
   clear Eo PD;go_roundw
   case rel=>exact⟨1,_,_,_,_,rfl,rfl,rfl,by omega,G6⟩
   case measure=>simp[intOf]
  ·obtain rfl:k=1:=by omega
   have HO:=ag HP.out.Z9
   go_wp2_with (first
    |(at_builtin;go_loud (refine gY (us:=#[I 6,I 1,I 0,I 0,.slice none 0 0,B false]) (w2:=wr) rfl (.tmp 26) (.tmp 28) 50 rfl underlying50 hi fV gF gG rfl (by decide) (by decide) rfl rfl (by simp[Value.oneCell']) (.slice a1 1 q1) 1 _ rfl HO.out wr.heap.size rfl rfl (by omega) qq ?_);intro g cp w3 hown kX gp;have Eo:=ag ((HP.out.alloc (.cells #[I 6,I 1,I 0,I 0,.slice none 0 0,B false] 49)).U6 (o:={ai:=6,ch:=1}) rfl kX hown gp);have Iq:=ag Eo.out.aa0;have PD:=Eo.out.lo.1;clear hown kX gp HO)
    |(at_builtin;go_loud (refine gY (us:=#[I 3,I 1,I 0,I 0,.slice none 0 0,B false]) (w2:=w3) rfl (.tmp 30) (.tmp 32) 50 rfl underlying50 hi fV gF gG rfl (by decide) (by decide) rfl rfl (by simp[Value.oneCell']) (.slice a2 1 q2) 1 _ rfl Iq.out w3.heap.size rfl rfl (by omega) PD ?_);intro g2 On w4 hown kX gp;have G6:=ag ((Eo.out.alloc (.cells #[I 3,I 1,I 0,I 0,.slice none 0 0,B false] 49)).U7 (o:={ai:=3,ch:=1}) rfl kX hown gp);clear hown kX gp Iq))
   clear Eo PD;go_ret;have HQ:=G6.out.alloc (.cells #[.slice (some ⟨g,0,none⟩) 2 cp,.slice (some ⟨g2,0,none⟩) 2 On] 50);obtain⟨aV,cap,ct,Q⟩:=HQ;have e1:=Q.h1;have e2:=Q.h2
   have b1:aV true=some g:=by
    cases hb:aV true with
    |none=>rw[hb]at e1;simp[nG]at e1
    |some z=>rw[hb]at e1;simp[nG]at e1;rw[e1.1]
   have b2:aV false=some g2:=by
    cases hb:aV false with
    |none=>rw[hb]at e2;simp[nG]at e2
    |some z=>rw[hb]at e2;simp[nG]at e2;rw[e2.1]
   refine⟨_,_,rfl,⟨by decide,fun i os ho=>?_⟩,Q.own.below⟩;have Mi:∀j,(w4.alloc (.cells #[.slice (some ⟨g,0,none⟩) 2 cp,.slice (some ⟨g2,0,none⟩) 2 On] 50)).cell? ⟨w4.heap.size,j,none⟩=(#[Value.slice (some ⟨g,0,none⟩) 2 cp,.slice (some ⟨g2,0,none⟩) 2 On]:Array Value)[j]?:=fun j=>cr _ _ _ _ _ _ (dP _ _)
   match i,ho with
   |0,ho=>
    simp at ho;subst ho;refine⟨_,0,some ⟨g,0,none⟩,cp,rfl,Mi 0,PC (n:=0) (c:=0) (by decide) (fun o ho=>?_) (fun o ho=>?_) (fun j u hu=>Q.own.cell b1 (by rw[Q.c1];exact hu))⟩
    ·simp[FV]at ho;rcases ho with rfl|rfl<;>rfl
    ·simp[FV]at ho;rcases ho with rfl|rfl<;>exact⟨by unfold pW;decide,by unfold pW;decide,by unfold pW;decide,by unfold pW;decide⟩
   |1,ho=>
    simp at ho;subst ho;refine⟨_,0,some ⟨g2,0,none⟩,On,rfl,Mi 1,PC (n:=0) (c:=0) (by decide) (fun o ho=>?_) (fun o ho=>?_) (fun j u hu=>Q.own.cell b2 (by rw[Q.c2];exact hu))⟩
    ·simp[FW]at ho;subst ho;rfl
    ·simp[FW]at ho;subst ho;exact⟨by unfold pW;decide,by unfold pW;decide,by unfold pW;decide,by unfold pW;decide⟩
   |i+2,ho=>simp at ho
end Go.Proofs.YtadifmnmfnihdaaGreat
