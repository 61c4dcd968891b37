import Derived.Test.YtadifmnmfnihdaaGreatA07
set_option linter.all false
set_option maxRecDepth 100000
set_option maxHeartbeats 40000000
namespace Go.Proofs.YtadifmnmfnihdaaGreat
open Mach
namespace V
section
variable{w w':Wd}{ls:List (List Nat)}{g:Nat}{x x':bI}{C:Nat}
section
variable(L:Loc C x)(hk:(aP x).ai=2∨(aP x).ai=3)
include L hk
theorem M.p13(hp:x.ae=13):lH x {x with ae:=14}∧Loc C {x with ae:=14}∧∀c,aL {x with ae:=14} c↔aL x c:=by
 have e:aP {x with ae:=14}=aP x:=rfl;obtain⟨l1,l2,l3,l4,l5,l6,l7,l8,l9,kN,kO,kP,kQ,kR,mT,mU,kS,mV,kT,kY,mW,kU,kV,kW⟩:=L;refine⟨?_,?_,?_⟩
 ·exact aA4
 ·exact ax8
 ·exact aW8
theorem M.Ng(hp:x.ae=14)(r:nP)(hr:r.case= -1):Loc C {x with res:=r,aN:= -1,ae:=15}∧∀c,aL {x with res:=r,aN:= -1,ae:=15} c↔aL x c:=by
 have e:aP {x with res:=r,aN:= -1,ae:=15}=aP x:=rfl;exact ax7
theorem M.Ip(hp:x.ae=15):Loc C {x with bY:= -1,ae:=18}∧∀c,aL {x with bY:= -1,ae:=18} c↔aL x c:=by
 have e:aP {x with bY:= -1,ae:=18}=aP x:=rfl;exact ax7
end
section
variable(L:Loc C x)(hk:2≤(aP x).ai∧(aP x).ai≤6∨(aP x).ai=9)(hp:x.ae=17)
include L hk hp
theorem M.ao2(l:List Int)(hl:l≠[]):Loc C {x with wakes:=l,ae:=17}∧∀c,aL {x with wakes:=l,ae:=17} c↔aL x c:=by
 have e:aP {x with wakes:=l,ae:=17}=aP x:=rfl;obtain⟨l1,l2,l3,l4,l5,l6,l7,l8,l9,kN,kO,kP,kQ,kR,mT,mU,kS,mV,kT,kY,mW,kU,kV,kW⟩:=L;have iw:cV (aP x) C {x with wakes:=l,ae:=17}↔cV (aP x) C x:=Iff.rfl;refine⟨?_,?_⟩
 ·exact ax8
 ·exact aW8
theorem M.ao3:Loc C {x with wakes:=[],ae:=18}∧∀c,aL {x with wakes:=[],ae:=18} c↔aL x c:=by
 have e:aP {x with wakes:=[],ae:=18}=aP x:=rfl;obtain⟨l1,l2,l3,l4,l5,l6,l7,l8,l9,kN,kO,kP,kQ,kR,mT,mU,kS,mV,kT,kY,mW,kU,kV,kW⟩:=L;have iw:cV (aP x) C {x with wakes:=[],ae:=18}↔cV (aP x) C x:=Iff.rfl;refine⟨?_,?_⟩
 ·exact ax8
 ·exact aW8
end
section
variable(L:Loc C x)(hk:2≤(aP x).ai∧(aP x).ai≤5)
include L hk
theorem M.p6l(hp:x.ae=6)(s:Nat):Loc C {x with br:=s,ae:=7}∧∀c,aL {x with br:=s,ae:=7} c↔aL x c:=by
 have e:aP {x with br:=s,ae:=7}=aP x:=rfl;exact ax7
theorem M.p6c(hp:x.ae=6)(s:Nat)(t p q:Int):Loc C {x with br:=s,t:=t,point:=p,bF:=q,ae:=8}∧∀c,aL {x with br:=s,t:=t,point:=p,bF:=q,ae:=8} c↔aL x c:=by
 have e:aP {x with br:=s,t:=t,point:=p,bF:=q,ae:=8}=aP x:=rfl;exact ax7
theorem M.p7l(hp:x.ae=7):Loc C {x with br:= -1,ae:=6}∧∀c,aL {x with br:= -1,ae:=6} c↔aL x c:=by
 have e:aP {x with br:= -1,ae:=6}=aP x:=rfl;exact ax7
theorem M.p7c(hp:x.ae=7)(t p q:Int):Loc C {x with t:=t,point:=p,bF:=q,ae:=8}∧∀c,aL {x with t:=t,point:=p,bF:=q,ae:=8} c↔aL x c:=by
 have e:aP {x with t:=t,point:=p,bF:=q,ae:=8}=aP x:=rfl;exact ax7
theorem M.p8(hp:x.ae=8)(r:nP)(hr:r.case= -1):Loc C {x with res:=r,br:= -1,ae:=16}∧∀c,aL {x with res:=r,br:= -1,ae:=16} c↔aL x c:=by
 have e:aP {x with res:=r,br:= -1,ae:=16}=aP x:=rfl;exact ax7
end
section
variable(L:Loc C x)(hk:(aP x).ai=6)
include L hk
theorem M.ao4(hp:x.ae=22)(s:Nat):Loc C {x with br:=s,ae:=23}∧∀c,aL {x with br:=s,ae:=23} c↔aL x c:=by
 have e:aP {x with br:=s,ae:=23}=aP x:=rfl;exact ax7
theorem M.ao5(hp:x.ae=22)(t:Int):Loc C {x with br:= -1,t:=t,ae:=22}∧∀c,aL {x with br:= -1,t:=t,ae:=22} c↔aL x c:=by
 have e:aP {x with br:= -1,t:=t,ae:=22}=aP x:=rfl;exact ax7
theorem M.ao6(hp:x.ae=23):Loc C {x with br:= -1,ae:=22}∧∀c,aL {x with br:= -1,ae:=22} c↔aL x c:=by
 have e:aP {x with br:= -1,ae:=22}=aP x:=rfl;exact ax7
theorem M.ao7(hp:x.ae=23)(t:Int):Loc C {x with br:= -1,t:=t,ae:=22}∧∀c,aL {x with br:= -1,t:=t,ae:=22} c↔aL x c:=by
 have e:aP {x with br:= -1,t:=t,ae:=22}=aP x:=rfl;exact ax7
end
section
variable(L:Loc C x)(hk:(aP x).ai=2∨(aP x).ai=3)
include L hk
theorem M.p10(hp:x.ae=10)(s:Nat):Loc C {x with bY:=s,ae:=11}∧∀c,aL {x with bY:=s,ae:=11} c↔aL x c:=by
 have e:aP {x with bY:=s,ae:=11}=aP x:=rfl;exact ax7
theorem M.p11(hp:x.ae=11)(t:Int):Loc C {x with bJ:=t,ae:=12}∧∀c,aL {x with bJ:=t,ae:=12} c↔aL x c:=by
 have e:aP {x with bJ:=t,ae:=12}=aP x:=rfl;exact ax7
end
end
end V
open Go.RowKit Go.Proofs.Tryz
section
variable{af:Nat}{F:Fx}{w w0 w':World}{m m0 m':Mem}{S S':Wd}{L:List (Nat×Obj)}
section
variable(R:bz af F w m S)(aG:Good S)(g:Nat)(x:bI)(hx:S.gs[g]?=some x)(ch:Int)(bO:eX ch)
include R aG g x hx ch bO
theorem Pn(hp:x.ae=1)(hb:iX S ch=some true):Calls prog 106 #[bR F,I g,I ch] w (ee fun w'=>At af F m w m w' (S.ay g {x with ae:=4})):=by
 have eM:=cA hx;have c2:=R.dM;have c3:=R.eu;obtain⟨g2,xV⟩:=R.ps hx 2 _ rfl;obtain⟨g12,xC⟩:=R.ps hx 12 _ rfl;obtain⟨g15,tT⟩:=R.ps hx 15 _ rfl;obtain⟨g16,tU⟩:=R.ps hx 16 _ rfl;obtain⟨g17,tV⟩:=R.ps hx 17 _ rfl;obtain⟨g18,tW⟩:=R.ps hx 18 _ rfl;obtain⟨g19,tX⟩:=R.ps hx 19 _ rfl;obtain⟨aU,cm,aY,aZ⟩:=R.pB;rw[hp]at g2;have A0:=At.refl R;have HX:=ag hx;have HS:=ag (lW R ch bO true hb);have A1:=A0.g HX {x with ae:=4} (q:=2) (v:=I 4);have HA:=ag A1;clear A1;exact bi1
theorem Po(hp:x.ae=1)(hb:iX S ch=some false):Calls prog 106 #[bR F,I g,I ch] w (ee fun w'=>At af F m w m w' (S.ay g {x with point:=S.av,ae:=2})):=by
 have eM:=cA hx;have c2:=R.dM;have c3:=R.eu;obtain⟨g2,xV⟩:=R.ps hx 2 _ rfl;obtain⟨g12,xC⟩:=R.ps hx 12 _ rfl;obtain⟨g15,tT⟩:=R.ps hx 15 _ rfl;obtain⟨g16,tU⟩:=R.ps hx 16 _ rfl;obtain⟨g17,tV⟩:=R.ps hx 17 _ rfl;obtain⟨g18,tW⟩:=R.ps hx 18 _ rfl;obtain⟨g19,tX⟩:=R.ps hx 19 _ rfl;obtain⟨aU,cm,aY,aZ⟩:=R.pB;rw[hp]at g2;have A0:=At.refl R;have HX:=ag hx;have HS:=ag (lW R ch bO false hb);have A1:=A0.g HX {x with point:=S.av} (q:=12) (v:=I S.av);have A2:=A1.g (az HX) {x with point:=S.av,ae:=2} (q:=2) (v:=I 2);rw[aA]at A2;have HA:=ag A2;clear A1 A2;exact aZ9
theorem Pp(hp:x.ae=2)(hb:dK S ch=true):Calls prog 106 #[bR F,I g,I ch] w (ee fun w'=>At af F m w m w' (S.ay g {x with ae:=3})):=by
 have eM:=cA hx;have c2:=R.dM;have c3:=R.eu;obtain⟨g2,xV⟩:=R.ps hx 2 _ rfl;obtain⟨g12,xC⟩:=R.ps hx 12 _ rfl;obtain⟨g15,tT⟩:=R.ps hx 15 _ rfl;obtain⟨g16,tU⟩:=R.ps hx 16 _ rfl;obtain⟨g17,tV⟩:=R.ps hx 17 _ rfl;obtain⟨g18,tW⟩:=R.ps hx 18 _ rfl;obtain⟨g19,tX⟩:=R.ps hx 19 _ rfl;obtain⟨aU,cm,aY,aZ⟩:=R.pB;rw[hp]at g2;have A0:=At.refl R;have HX:=ag hx;have HS:=ag (qJ R aG ch bO);rw[hb]at HS;have A1:=A0.g HX {x with ae:=3} (q:=2) (v:=I 3);have HA:=ag A1;clear A1;clear R aG hx hp hb A0;unfold bR;go_enter func106,ntmps106;go_wp2_with (go_at_call 162;refine HS.out.mono ?_;rintro e w1 ⟨rfl,rfl⟩);exact aX7
theorem Pq(hp:x.ae=2)(hb:dK S ch=false):Calls prog 106 #[bR F,I g,I ch] w (ee fun w'=>At af F m w m w' (S.ay g {x with res:={x.res with aJ:=2},ae:=18})):=by
 have eM:=cA hx;have c2:=R.dM;have c3:=R.eu;obtain⟨g2,xV⟩:=R.ps hx 2 _ rfl;obtain⟨g12,xC⟩:=R.ps hx 12 _ rfl;obtain⟨g15,tT⟩:=R.ps hx 15 _ rfl;obtain⟨g16,tU⟩:=R.ps hx 16 _ rfl;obtain⟨g17,tV⟩:=R.ps hx 17 _ rfl;obtain⟨g18,tW⟩:=R.ps hx 18 _ rfl;obtain⟨g19,tX⟩:=R.ps hx 19 _ rfl;obtain⟨aU,cm,aY,aZ⟩:=R.pB;rw[hp]at g2;have A0:=At.refl R;have HX:=ag hx;have HS:=ag (qJ R aG ch bO);rw[hb]at HS;have A1:=A0.g HX {x with res:={x.res with aJ:=2}} (q:=15) (v:=I 2);have A2:=A1.g (az HX) {x with res:={x.res with aJ:=2},ae:=18} (q:=2) (v:=I 18);rw[aA]at A2;have HA:=ag A2;clear A1 A2;clear R aG hx hp hb A0;unfold bR;go_enter func106,ntmps106;go_wp2_with (go_at_call 162;refine HS.out.mono ?_;rintro e w1 ⟨rfl,rfl⟩);exact ba9
theorem Pr(hp:x.ae=3)(hb:iX S ch=some true):Calls prog 106 #[bR F,I g,I ch] w (ee fun w'=>At af F m w m w' (S.ay g {x with point:=0,ae:=4})):=by
 have eM:=cA hx;have c2:=R.dM;have c3:=R.eu;obtain⟨g2,xV⟩:=R.ps hx 2 _ rfl;obtain⟨g12,xC⟩:=R.ps hx 12 _ rfl;obtain⟨g15,tT⟩:=R.ps hx 15 _ rfl;obtain⟨g16,tU⟩:=R.ps hx 16 _ rfl;obtain⟨g17,tV⟩:=R.ps hx 17 _ rfl;obtain⟨g18,tW⟩:=R.ps hx 18 _ rfl;obtain⟨g19,tX⟩:=R.ps hx 19 _ rfl;obtain⟨aU,cm,aY,aZ⟩:=R.pB;rw[hp]at g2;have A0:=At.refl R;have HX:=ag hx;have HS:=ag (lW R ch bO true hb);have A1:=A0.g HX {x with point:=0} (q:=12) (v:=I 0);have A2:=A1.g (az HX) {x with point:=0,ae:=4} (q:=2) (v:=I 4);rw[aA]at A2;have HA:=ag A2;clear A1 A2;exact bi1
theorem Ps(hp:x.ae=3)(hb:iX S ch=some false):Calls prog 106 #[bR F,I g,I ch] w (ee fun w'=>At af F m w m w' (S.ay g {x with res:={aJ:=1,case:= -1},point:=S.av,ae:=18})):=by
 have eM:=cA hx;have c2:=R.dM;have c3:=R.eu;obtain⟨g2,xV⟩:=R.ps hx 2 _ rfl;obtain⟨g12,xC⟩:=R.ps hx 12 _ rfl;obtain⟨g15,tT⟩:=R.ps hx 15 _ rfl;obtain⟨g16,tU⟩:=R.ps hx 16 _ rfl;obtain⟨g17,tV⟩:=R.ps hx 17 _ rfl;obtain⟨g18,tW⟩:=R.ps hx 18 _ rfl;obtain⟨g19,tX⟩:=R.ps hx 19 _ rfl;obtain⟨aU,cm,aY,aZ⟩:=R.pB;rw[hp]at g2;have A0:=At.refl R;have HX:=ag hx;have HS:=ag (lW R ch bO false hb);have A1:=A0.res HX {aJ:=1,case:= -1};have A2:=A1.g (az HX) {x with res:={aJ:=1,case:= -1},point:=S.av} (q:=12) (v:=I S.av);rw[aA]at A2;have A3:=A2.g (az HX) {x with res:={aJ:=1,case:= -1},point:=S.av,ae:=18} (q:=2) (v:=I 18);rw[aA]at A3;have HA:=ag A3;clear A1 A2 A3;exact aZ9
end
theorem FK(R:bz af F w m S)(aG:Good S)(g:Nat)(ch:Int)(bO:eX ch)(S':Wd)(hm:jI S g ch=some S'):Calls prog 163 #[bR F,I g,I ch] w (ee fun w'=>At af F m w m w' S'):=by
 unfold jI at hm;simp only[bW,cI]at hm;obtain⟨x,hx,hm⟩:=hm;have eM:=cA hx;have c2:=R.dM;have c3:=R.eu;obtain⟨g2,xV⟩:=R.ps hx 2 _ rfl;obtain⟨g12,xC⟩:=R.ps hx 12 _ rfl;obtain⟨g15,tT⟩:=R.ps hx 15 _ rfl;obtain⟨g16,tU⟩:=R.ps hx 16 _ rfl;obtain⟨g17,tV⟩:=R.ps hx 17 _ rfl;obtain⟨g18,tW⟩:=R.ps hx 18 _ rfl;obtain⟨g19,tX⟩:=R.ps hx 19 _ rfl;obtain⟨aU,cm,aY,aZ⟩:=R.pB;have A0:=At.refl R;have HX:=ag hx;have HS:=ag (qJ R aG ch bO)
 cases hb:dK S ch with
 |false=>
  rw[aE (by simp[hb])]at hm;rw[hb]at HS;obtain⟨x',th,rfl⟩:=Nb hm;rw[hx]at th
  cases th;have A1:=A0.g HX {x with ae:=6} (q:=2) (v:=I 6)
  have HA:=ag A1;clear A1;clear R aG hx hm hb A0;unfold bR;go_enter func163,ntmps163;go_wp2_with (go_at_call 162;refine HS.out.mono ?_;rintro e w1 ⟨rfl,rfl⟩);go_end0;exact⟨rfl,HA⟩
 |true=>
  rw[aF hb]at hm;rw[hb]at HS;simp only[cI]at hm;obtain⟨⟨c,r⟩,tS,hm⟩:=hm;obtain⟨hc,hr⟩:=kx tS;subst hc;clear tS;obtain⟨rr,rb,pL,fA,c5,cp⟩:=R.iJ hr;obtain⟨Hw,gr,a,cc',hh,k0,k1,k2,_⟩:=R.eU hr;rw[fA]at gr
  cases gr;have gm:c<S.au.length:=cA hr;have hs:IntKind.i64.wrap ((c:Int)+1-1)=(c:Int):=bv4
  obtain⟨cn,RG⟩:=dC (r.count);rw[←RG]at k2 hm;by_cases hp:0<cn
  ·rw[aF hp]at hm;obtain⟨x',th,rfl⟩:=Nb hm;rw[hx]at th
   cases th;have A1:=A0.g HX {x with ae:=9} (q:=2) (v:=I 9)
   have HA:=ag A1;clear A1;clear R aG hx hm hb A0 hr pL fA hh RG;exact ba5
  ·rw[aE hp]at hm
   cases hm;have A1:=A0.res HX {aJ:=1,case:= -1};have A2:=A1.g (az HX) {x with res:={aJ:=1,case:= -1},point:=S.av} (q:=12) (v:=I S.av)
   rw[aA]at A2;have A3:=A2.g (az HX) {x with res:={aJ:=1,case:= -1},point:=S.av,ae:=16} (q:=2) (v:=I 16);rw[aA]at A3;have HA:=ag A3;clear A1 A2 A3;clear R aG hx hb A0 hr pL fA hh RG;exact ba5
theorem At.cl(A:At af F m0 w0 m w S){cb c:Nat}(fP:m.aV .aO=some cb)(b:Bool):At af F m0 w0 m (w.setCell ⟨cb,c,none⟩ (B b)) {S with aO:=S.aO.set c b}:=by
 refine A.set (r:=.aO) fP (by simp only[aj,List.map_set]) ?_;exact aZ2
section
variable(R:bz af F w m S)(aG:Good S)(g:Nat)(x:bI)(hx:S.gs[g]?=some x)(ch:Int)(bO:eX ch)
include R aG g x hx ch bO
theorem Wz(gv:cZ S ch=true)(mP:dK S ch=true):Calls prog 109 #[bR F,I g,I ch] w (ee fun w'=>At af F m w m w' (S.ay g {x with point:=S.av,res:={aJ:=4,case:= -1},ae:=16})):=by
 have eM:=cA hx;have c2:=R.dM;have c3:=R.eu;obtain⟨g2,xV⟩:=R.ps hx 2 _ rfl;obtain⟨g12,xC⟩:=R.ps hx 12 _ rfl;obtain⟨g15,tT⟩:=R.ps hx 15 _ rfl;obtain⟨g16,tU⟩:=R.ps hx 16 _ rfl;obtain⟨g17,tV⟩:=R.ps hx 17 _ rfl;obtain⟨g18,tW⟩:=R.ps hx 18 _ rfl;obtain⟨g19,tX⟩:=R.ps hx 19 _ rfl;obtain⟨aU,cm,aY,aZ⟩:=R.pB;have A0:=At.refl R;have HX:=ag hx;have A1:=A0.g HX {x with point:=S.av} (q:=12) (v:=I S.av);have HM:Hid (Calls prog 138 #[.pointer (some ⟨F.al,0,none⟩),I ch] (w.setCell ⟨F.gs,g*25+12,none⟩ (I S.av)) fun e w'=>e=.returned (.bool (cZ S ch))∧w.setCell ⟨F.gs,g*25+12,none⟩ (I S.av)=w'):=ag (gJ A1.bj ch);obtain⟨c,b,hc,hb,gm⟩:=qI aG gv;rw[gm]at mP;subst mP;obtain⟨cb,fP,c6,cx⟩:=R.ka hb;have De:c<S.aO.length:=cA hb;have hs:IntKind.i64.wrap ((c:Int)+1-1)=(c:Int):=bv4
 have ar3:=R.lt fP;have Km:cb≠F.gs:=R.ne fP R.aB.gs;have Nu:cb≠F.al:=R.ne fP R.aB.al;have ne3:=Km.symm;have ne4:=Nu.symm;have fcb:=R.frozen fP c;rw[gv]at HM;subst hc;have B1:=A1.res (az HX) {aJ:=4,case:= -1};rw[aA]at B1;have B2:=B1.g (az HX) {x with point:=S.av,res:={aJ:=4,case:= -1},ae:=16} (q:=2) (v:=I 16);rw[aA]at B2;have HA:=ag B2;clear B1 B2;clear R aG hx A0 A1 hb fP gm gv;unfold bR;go_enter func109,ntmps109;go_wp2_with (go_at_call 138;refine HM.out.mono ?_;rintro e w1 ⟨rfl,rfl⟩);refine bodyPost_ret (results_none rfl _ _ _) rfl ?_;exact⟨rfl,HA.out.aI⟩
theorem WB(gv:cZ S ch=true)(mP:dK S ch=false)(cl:List Bool)(De:Mach.put S.aO (ch-1) true=some cl):Calls prog 109 #[bR F,I g,I ch] w (ee fun w'=>At af F m w m w' (({S with aO:=cl}:Wd).ay g {x with point:=S.av,res:={aJ:=1,case:= -1,ok:=true},ae:=22})):=by
 have eM:=cA hx;have c2:=R.dM;have c3:=R.eu;obtain⟨g2,xV⟩:=R.ps hx 2 _ rfl;obtain⟨g12,xC⟩:=R.ps hx 12 _ rfl;obtain⟨g15,tT⟩:=R.ps hx 15 _ rfl;obtain⟨g16,tU⟩:=R.ps hx 16 _ rfl;obtain⟨g17,tV⟩:=R.ps hx 17 _ rfl;obtain⟨g18,tW⟩:=R.ps hx 18 _ rfl;obtain⟨g19,tX⟩:=R.ps hx 19 _ rfl;obtain⟨aU,cm,aY,aZ⟩:=R.pB;have A0:=At.refl R;have HX:=ag hx;have A1:=A0.g HX {x with point:=S.av} (q:=12) (v:=I S.av);have HM:Hid (Calls prog 138 #[.pointer (some ⟨F.al,0,none⟩),I ch] (w.setCell ⟨F.gs,g*25+12,none⟩ (I S.av)) fun e w'=>e=.returned (.bool (cZ S ch))∧w.setCell ⟨F.gs,g*25+12,none⟩ (I S.av)=w'):=ag (gJ A1.bj ch);have Z6:=De;clear De;obtain⟨c,b,hc,hb,gm⟩:=qI aG gv;rw[gm]at mP;subst mP;obtain⟨cb,fP,c6,cx⟩:=R.ka hb;have ar4:c<S.aO.length:=cA hb;have hs:IntKind.i64.wrap ((c:Int)+1-1)=(c:Int):=bv4
 have ar3:=R.lt fP;have Km:cb≠F.gs:=R.ne fP R.aB.gs;have Nu:cb≠F.al:=R.ne fP R.aB.al;have ne3:=Km.symm;have ne4:=Nu.symm;have fcb:=R.frozen fP c;rw[gv]at HM;subst hc;rw[show(c:Int)+1-1=(c:Int)by omega,RZ ar4]at Z6
 cases Z6;have eE:(S.ay g {x with point:=S.av}).gs[g]?=some {x with point:=S.av}:=az HX
 have A2:=A1.cl (c:=c) fP true;have kt:({(S.ay g {x with point:=S.av})with aO:=(S.ay g {x with point:=S.av}).aO.set c true}:Wd).gs[g]?=some {x with point:=S.av}:=eE;have B1:=A2.res kt {aJ:=1,case:= -1,ok:=true};have B2:=B1.g (az kt) {x with point:=S.av,res:={aJ:=1,case:= -1,ok:=true},ae:=22} (q:=2) (v:=I 22);have HA:=ag (B2.eq (S':=(({S with aO:=S.aO.set c true}:Wd).ay g {x with point:=S.av,res:={aJ:=1,case:= -1,ok:=true},ae:=22})) (by simp[Wd.ay,my]));clear B1 B2 A2 eE kt;clear R aG hx A0 A1 hb fP gm gv;unfold bR;go_enter func109,ntmps109;go_wp2_with (go_at_call 138;refine HM.out.mono ?_;rintro e w1 ⟨rfl,rfl⟩);go_end0;exact⟨rfl,HA.out.aI⟩
theorem WC(gv:cZ S ch=false):Calls prog 109 #[bR F,I g,I ch] w (ee fun w'=>At af F m w m w' (S.ay g {x with point:=S.av,res:={aJ:=1,case:= -1,ok:=true},ae:=22})):=by
 have eM:=cA hx;have c2:=R.dM;have c3:=R.eu;obtain⟨g2,xV⟩:=R.ps hx 2 _ rfl;obtain⟨g12,xC⟩:=R.ps hx 12 _ rfl;obtain⟨g15,tT⟩:=R.ps hx 15 _ rfl;obtain⟨g16,tU⟩:=R.ps hx 16 _ rfl;obtain⟨g17,tV⟩:=R.ps hx 17 _ rfl;obtain⟨g18,tW⟩:=R.ps hx 18 _ rfl;obtain⟨g19,tX⟩:=R.ps hx 19 _ rfl;obtain⟨aU,cm,aY,aZ⟩:=R.pB;have A0:=At.refl R;have HX:=ag hx;have A1:=A0.g HX {x with point:=S.av} (q:=12) (v:=I S.av);have HM:Hid (Calls prog 138 #[.pointer (some ⟨F.al,0,none⟩),I ch] (w.setCell ⟨F.gs,g*25+12,none⟩ (I S.av)) fun e w'=>e=.returned (.bool (cZ S ch))∧w.setCell ⟨F.gs,g*25+12,none⟩ (I S.av)=w'):=ag (gJ A1.bj ch);rw[gv]at HM;have B1:=A1.res (az HX) {aJ:=1,case:= -1,ok:=true};rw[aA]at B1;have B2:=B1.g (az HX) {x with point:=S.av,res:={aJ:=1,case:= -1,ok:=true},ae:=22} (q:=2) (v:=I 22);rw[aA]at B2;have HA:=ag B2;clear B1 B2;clear R aG hx A0 A1 gv;unfold bR;go_enter func109,ntmps109;go_wp2_with (go_at_call 138;refine HM.out.mono ?_;rintro e w1 ⟨rfl,rfl⟩);exact ba9
end
theorem Mh(R:bz af F w m S)(aG:Good S)(g:Nat)(ch:Int)(bO:eX ch)(S':Wd)(hm:uD S g ch=some S'):Calls prog 109 #[.pointer (some ⟨F.al,0,none⟩),I g,I ch] w (ee fun w'=>At af F m w m w' S'):=by
 unfold uD at hm;simp only[bW,cI]at hm;obtain⟨x,hx,hm⟩:=hm
 cases mP:dK S ch with
 |true=>
  have gv:cZ S ch=true:=by unfold dK at mP;simp only[qs]at mP;exact mP.1
  rw[mP,aF rfl]at hm
  cases hm;exact Wz R aG g x hx ch bO gv mP
 |false=>
  rw[mP,aE sX]at hm
  cases gv:cZ S ch with
  |true=>
   rw[gv,aF rfl]at hm;simp only[cI,aH5]at hm;obtain⟨S2,⟨cl,gm,rfl⟩,hm⟩:=hm
   cases hm;exact WB R aG g x hx ch bO gv mP cl gm
  |false=>
   rw[gv,aE sX]at hm
   cases hm;exact WC R aG g x hx ch bO gv
theorem PA{g:Nat}{S':Wd}(hm:yo S g=some S'):∃x s S3 sd z y,S.gs[g]?=some x∧x.br=(s:Nat)∧fZ (S.ay g {x with t:=S.av}) s=some S3∧S3.ah[s]?=some sd∧sd.g=(z:Nat)∧S3.gs[z]?=some y∧z≠g∧Mach.serve (S3.ay z {y with point:=S3.av,fire:=sd.case}) g s false=some S':=by
 unfold yo at hm;simp only[bW,cI]at hm;obtain⟨x,hx,s,hs,S3,h3,sd,RY,z,hz,y,hy,hm⟩:=hm;by_cases mh:z=g
 ·rw[aF mh]at hm;cases hm
 rw[aE mh]at hm;exact⟨x,s,S3,sd,z,y,hx,du hs,h3,RY,du hz,hy,mh,hm⟩
theorem PB(R:bz af F w m S)(g:Nat)(S':Wd)(hm:yo S g=some S'):Calls prog 168 #[bR F,I g] w (ee (To af F m w S')):=by
 obtain⟨x,s,S3,sd,z,y,hx,hs,h3,RY,hz,hy,mh,h4⟩:=PA hm;have eM:=cA hx;have c2:=R.dM;have c3:=R.eu;have c8:=R.dR;have g9:=R.g hx 9 _ rfl;obtain⟨g10,Zv⟩:=R.ps hx 10 _ rfl;obtain⟨aU,cm,aY,aZ⟩:=R.pB;rw[hs]at g9;have A1:=(At.refl R).g hx {x with t:=S.av} (q:=10) (v:=I S.av);have ri:=ag A1;have hq3:S3.gs[g]?=some {x with t:=S.av}∧S3.gs.length=S.gs.length∧S3.av=S.av∧S3.ah=S.ah:=by obtain⟨q,b,_,rfl⟩:=mF h3;exact⟨az hx,bp6,rfl,rfl⟩
 obtain⟨nM,XG,Z7,ar5⟩:=hq3;have Ay:z<S3.gs.length:=cA hy;have mj:s<S3.ah.length:=cA RY;obtain⟨oh,HY,qH,HZ,H3,H4⟩:=mr nM hy RY hz h3 h4;have pI:=ag Z7;have o1:¬z*25+12=g*25+10:=oX
 have o2:¬z*25+14=g*25+10:=oX
 have aA8:g<S3.gs.length:=oX
 rw[←XG]at c3;clear R hx hs A1 nM hy RY hz h3 h4 hm Z7 ar5 XG eM;unfold bR;go_enter func168,ntmps168;go_wp2_with (go_at_call 150;refine(kv ri H3).mono ?_;rintro e w2 ⟨⟨b,rfl⟩,A2⟩;have R2:=A2.bj;have d2:=R2.dM;have d3:=R2.eu;have d9:=R2.ed;have l1:=R2.lt R2.aB.al;have l2:=R2.lt R2.aB.gs;have l3:=R2.lt R2.aB.ah;have n1:=R2.ne R2.aB.al R2.aB.gs;have n2:=R2.ne R2.aB.ah R2.aB.gs;have n3:=n1.symm;have n4:=n2.symm;have p10:=R2.g oh 10 _ rfl;have q12:=R2.g HY 12 _ rfl;have aA9:=R2.frozen R2.aB.gs (z*25+12);have q14:=R2.g HY 14 _ rfl;have aB0:=R2.frozen R2.aB.gs (z*25+14);have s1:=R2.s qH 1 _ rfl;have s3:=R2.s qH 3 _ rfl;rw[HZ.out]at s1;have nx:=ag A2;clear A2 R2);have B1:=nx.out.g HY {y with point:=S.av} (q:=12) (v:=I S.av);have B2:=B1.g (az HY) {y with point:=S.av,fire:=sd.case} (q:=14) (v:=I sd.case);rw[aA]at B2;rw[pI.out]at H4;have HB:=ag B2;clear B1 B2;go_quiet (fail);go_wp2_with (go_at_call 152;refine(OQ HB.out.aI H4).mono ?_;rintro e w3 ⟨rfl,mN,A3⟩;have HC:=ag A3;clear A3);go_end0;exact⟨rfl,mN,HC⟩
theorem Qz(A:At af F m0 w0 m w S){g:Nat}{S':Wd}(hm:yo S g=some S'):Calls prog 168 #[bR F,I g] w (ee fun w'=>∃m',At af F m0 w0 m' w' S'):=
 (PB A.bj g S' hm).mono fun e w' ⟨h1,m',h2⟩=>⟨h1,m',A.cont h2⟩
theorem TR(R:bz af F w m S)(g:Nat)(x:bI)(hx:S.gs[g]?=some x)(ch:Int)(bO:eX ch){a b:Int}(h1:S.aw.first (2*ch-2)=(a,false))(h2:S.aw.first (2*ch-1)=(b,false)):Calls prog 110 #[bR F,I g,I ch] w (ee fun w'=>To af F m w (S.ay g {x with ae:=16}) w'):=by
 have eM:=cA hx;have c3:=R.eu;have c8:=R.dR;have c9:=R.ed;obtain⟨g2,xV⟩:=R.ps hx 2 _ rfl;obtain⟨g9,Rz⟩:=R.ps hx 9 _ rfl;obtain⟨aU,cm,fO,aY,dx,aZ,ez,dz,eB⟩:=R.b3X R.aB.al R.aB.gs R.aB.ah;have A0:=At.refl R;have HX:=ag hx;have HF:=ag (fun k=>nk R k);have H1:=ag h1;have H2:=ag h2;have HA:=ag (A0.g HX {x with ae:=16} (q:=2) (v:=I 16));clear R hx A0 h1 h2;unfold bR;go_enter func110,ntmps110;go_wp2_with (first|(go_at_call 149;refine(HF _).mono ?_;rintro e w1 ⟨he,rfl⟩;rw[H1.out]at he;subst he)|(go_at_call 149;refine(HF _).mono ?_;rintro e w1 ⟨he,rfl⟩;rw[H2.out]at he;subst he));refine bodyPost_ret (results_none rfl _ _ _) rfl ?_;exact⟨rfl,m,HA.out.aI⟩
section
variable(R:bz af F w m S)(g:Nat)(x:bI)(hx:S.gs[g]?=some x)(ch:Int)(bO:eX ch){s:Nat}{sd:gn}(h1:S.aw.first (2*ch-2)=((s:Int),true)∨∃a,S.aw.first (2*ch-2)=(a,false)∧S.aw.first (2*ch-1)=((s:Int),true))(RY:S.ah[s]?=some sd)
include R g x hx ch bO h1 RY
theorem KL(hc:0≤sd.case):Calls prog 110 #[bR F,I g,I ch] w (ee fun w'=>To af F m w (S.ay g {x with br:=s,ae:=23}) w'):=by
 rcases h1 with h1|⟨a,h1,h2⟩
 all_goals
  have eM:=cA hx;have c3:=R.eu;have c8:=R.dR;have c9:=R.ed;obtain⟨g2,xV⟩:=R.ps hx 2 _ rfl;obtain⟨g9,Rz⟩:=R.ps hx 9 _ rfl;obtain⟨aU,cm,fO,aY,dx,aZ,ez,dz,eB⟩:=R.b3X R.aB.al R.aB.gs R.aB.ah;have A0:=At.refl R;have HX:=ag hx;have HF:=ag (fun k=>nk R k);have H1:=ag h1;try have H2:=ag h2
  have mj:s<S.ah.length:=cA RY;have s3:=R.s RY 3 _ rfl;have B1:=A0.g HX {x with br:=s} (q:=9) (v:=I s);have B2:=B1.g (az HX) {x with br:=s,ae:=23} (q:=2) (v:=I 23);rw[aA]at B2;have HA:=ag B2;clear B1 B2;clear R hx A0 RY h1;try clear h2
  unfold bR;go_enter func110,ntmps110;go_wp2_with (first|(go_at_call 149;refine(HF _).mono ?_;rintro e w1 ⟨he,rfl⟩;rw[H1.out]at he;subst he)|(go_at_call 149;refine(HF _).mono ?_;rintro e w1 ⟨he,rfl⟩;rw[H2.out]at he;subst he));go_end0;exact⟨rfl,m,HA.out.aI⟩
theorem KM(hc:sd.case= -1)(S':Wd)(hm:yo (S.ay g {x with br:=s}) g=some S'):Calls prog 110 #[bR F,I g,I ch] w (ee (To af F m w S')):=by
 rcases h1 with h1|⟨a,h1,h2⟩
 all_goals
  have eM:=cA hx;have c3:=R.eu;have c8:=R.dR;have c9:=R.ed;obtain⟨g2,xV⟩:=R.ps hx 2 _ rfl;obtain⟨g9,Rz⟩:=R.ps hx 9 _ rfl;obtain⟨aU,cm,fO,aY,dx,aZ,ez,dz,eB⟩:=R.b3X R.aB.al R.aB.gs R.aB.ah;have A0:=At.refl R;have HX:=ag hx;have HF:=ag (fun k=>nk R k);have H1:=ag h1;try have H2:=ag h2
  have mj:s<S.ah.length:=cA RY;have s3:=R.s RY 3 _ rfl;have B1:=A0.g HX {x with br:=s} (q:=9) (v:=I s);have HA:=ag B1;have HM:=ag hm;rw[hc]at s3;clear B1 hm;clear R hx A0 RY hc h1;try clear h2
  unfold bR;go_enter func110,ntmps110;go_wp2_with (first|(go_at_call 149;refine(HF _).mono ?_;rintro e w1 ⟨he,rfl⟩;rw[H1.out]at he;subst he)|(go_at_call 149;refine(HF _).mono ?_;rintro e w1 ⟨he,rfl⟩;rw[H2.out]at he;subst he)|(go_at_call 168;refine(Qz HA.out.aI HM).mono ?_;rintro e w3 ⟨rfl,mN,A3⟩;have HC:=ag A3;clear A3));go_end0;exact⟨rfl,mN,HC⟩
theorem KN(hc:sd.case< -1):Calls prog 110 #[bR F,I g,I ch] w (ee fun w'=>To af F m w (S.ay g {x with br:=s}) w'):=by
 rcases h1 with h1|⟨a,h1,h2⟩
 all_goals
  have eM:=cA hx;have c3:=R.eu;have c8:=R.dR;have c9:=R.ed;obtain⟨g2,xV⟩:=R.ps hx 2 _ rfl;obtain⟨g9,Rz⟩:=R.ps hx 9 _ rfl;obtain⟨aU,cm,fO,aY,dx,aZ,ez,dz,eB⟩:=R.b3X R.aB.al R.aB.gs R.aB.ah;have A0:=At.refl R;have HX:=ag hx;have HF:=ag (fun k=>nk R k);have H1:=ag h1;try have H2:=ag h2
  have mj:s<S.ah.length:=cA RY;have s3:=R.s RY 3 _ rfl;have B1:=A0.g HX {x with br:=s} (q:=9) (v:=I s);have HA:=ag B1;have xz:(sd.case== -1)=false:=bi8
  have Ws:decide (0≤sd.case)=false:=bi8
  clear B1;clear R hx A0 RY h1;try clear h2
  unfold bR;go_enter func110,ntmps110;go_wp2_with (first|(go_at_call 149;refine(HF _).mono ?_;rintro e w1 ⟨he,rfl⟩;rw[H1.out]at he;subst he)|(go_at_call 149;refine(HF _).mono ?_;rintro e w1 ⟨he,rfl⟩;rw[H2.out]at he;subst he));go_end0;exact⟨rfl,m,HA.out.aI⟩
end
section
variable(R:bz af F w m S)(g:Nat)
include R g
theorem Jr(ch:Int)(bO:eX ch)(S':Wd)(hm:qt S g ch=some S'):Calls prog 110 #[.pointer (some ⟨F.al,0,none⟩),I g,I ch] w (ee (To af F m w S')):=by
 unfold qt sK at hm;simp only[bW,cI]at hm;obtain⟨x,hx,hm⟩:=hm
 cases h1:(S.aw.first (2*ch-2)).2 with
 |true=>
  simp only[h1,dt,aH6,dF,cI]at hm;obtain⟨s,hs,sd,RY,hm⟩:=hm;have hs:=du hs;have h1:S.aw.first (2*ch-2)=((s:Int),true):=Prod.ext hs h1;by_cases hc:0≤sd.case
  ·rw[aF hc]at hm
   cases hm;exact KL R g x hx ch bO (.inl h1) RY hc
  rw[aE hc]at hm;by_cases xz:sd.case= -1
  ·rw[aF xz]at hm;exact KM R g x hx ch bO (.inl h1) RY xz _ hm
  rw[aE xz]at hm
  cases hm;exact KN R g x hx ch bO (.inl h1) RY oX
 |false=>
  simp only[h1,nW,dF]at hm
  cases h2:(S.aw.first (2*ch-1)).2 with
  |false=>
   simp only[h2,dt]at hm;obtain⟨x2,kt,rfl⟩:=Nb hm;rw[hx]at kt
   cases kt;exact TR R g x hx ch bO (Prod.ext rfl h1) (Prod.ext rfl h2)
  |true=>
   simp only[h2,aH6,dF,cI]at hm;obtain⟨s,hs,sd,RY,hm⟩:=hm;have hs:=du hs;have h2:S.aw.first (2*ch-1)=((s:Int),true):=Prod.ext hs h2;by_cases hc:0≤sd.case
   ·rw[aF hc]at hm
    cases hm;exact KL R g x hx ch bO (.inr ⟨_,Prod.ext rfl h1,h2⟩) RY hc
   rw[aE hc]at hm;by_cases xz:sd.case= -1
   ·rw[aF xz]at hm;exact KM R g x hx ch bO (.inr ⟨_,Prod.ext rfl h1,h2⟩) RY xz _ hm
   rw[aE xz]at hm
   cases hm;exact KN R g x hx ch bO (.inr ⟨_,Prod.ext rfl h1,h2⟩) RY oX
theorem Bn(S':Wd)(hm:ly S g=some S'):Calls prog 111 #[bR F,I g] w (ee (To af F m w S')):=by
 have HR:=ag (At.refl R);have c3:=R.eu;have c8:=R.dR;have c9:=R.ed;unfold ly at hm;simp only[bW,cI]at hm;obtain⟨x,hx,s,hs,sd,RY,z,hz,y,hy,hm⟩:=hm;have hs:=du hs;have hz:=du hz;by_cases mh:z=g
 ·rw[aF mh]at hm;cases hm
 rw[aE mh]at hm;have eM:=cA hx;have Ay:z<S.gs.length:=cA hy;have mj:s<S.ah.length:=cA RY;obtain⟨g9,Rz⟩:=R.ps hx 9 _ rfl;obtain⟨g2,xV⟩:=R.ps hx 2 _ rfl;obtain⟨z6,zf6⟩:=R.ps hy 6 _ rfl;have s1:=R.s RY 1 _ rfl;obtain⟨aU,cm,fO,aY,dx,aZ,ez,dz,eB⟩:=R.b3X R.aB.al R.aB.gs R.aB.ah;rw[hs]at g9;rw[hz]at s1;by_cases hp:y.bk=true
 ·rw[aF hp]at hm;simp only[cI]at hm;obtain⟨S3,h3,hm⟩:=hm
  cases hm;rw[hp]at z6;have H3:=ag h3;have nM:S3.gs[g]?=some x:=by obtain⟨q,b,_,rfl⟩:=mF h3;exact hx
  have oh:=ag nM;clear R hx RY hy hs hz hp h3 nM;unfold bR;go_enter func111,ntmps111;go_wp2_with fail
  go_quiet (fail);go_wp2_with (go_at_call 150;(refine(kv HR.out.aI H3).mono ?_;rintro e w2 ⟨⟨b,rfl⟩,A3⟩;have R3:=A3.bj;have p9:=R3.g oh 9 _ rfl;have fp9:=R3.frozen R3.aB.gs (g*25+9);have p2:=R3.g oh 2 _ rfl;have wW:=R3.frozen R3.aB.gs (g*25+2);have vC:=ag A3;clear A3 R3));go_end0;have A4:=vC.out.g oh {x with br:= -1} (q:=9) (v:=I (-1));have A5:=A4.g (az oh) {x with br:= -1,ae:=22} (q:=2) (v:=I 22);rw[aA]at A5;exact⟨rfl,m,A5⟩
 ·rw[aE hp]at hm;have vT:y.bk=false:=by simpa using hp
  rw[vT]at z6;simp only[cI]at hm;obtain⟨S4,h4,hm⟩:=hm;obtain⟨x4,vB,rfl⟩:=Nb hm;have A1:=HR.out.g hy {y with bk:=true} (q:=6) (v:=B true);have HA:=ag A1;obtain⟨H4,ux⟩:=dA h4 vB;clear R hx RY hy hs hz hp vT h4 vB hm A1;unfold bR;go_enter func111,ntmps111;go_wp2_with fail
  go_quiet (fail);go_wp2_with (go_at_call 168;refine(Qz HA.out.aI H4).mono ?_;rintro e w3 ⟨rfl,mN,A4⟩;have R4:=A4.bj;have p2:=R4.g ux 2 _ rfl;have wW:=R4.frozen R4.aB.gs (g*25+2);have A5:=A4.g ux {x4 with ae:=22} (q:=2) (v:=I 22);have vV:=ag A5;clear A4 A5 R4);go_end0;exact⟨rfl,mN,vV⟩
theorem vq(x:bI)(hx:S.gs[g]?=some x)(s:Nat)(hs:x.aN=s)(sd:gn)(RY:S.ah[s]?=some sd)(rr:nP)(hh:(sd.done=true∧sd.cF=true∧rr={aJ:=1,case:=sd.case,ok:=true})∨(sd.done=true∧sd.cF=false∧rr={aJ:=1,case:=sd.case,ok:=true,v:=sd.v})∨(sd.done=false∧sd.cF=true∧rr={aJ:=3,case:=sd.case})∨(sd.done=false∧sd.cF=false∧rr={aJ:=1,case:=sd.case})):Calls prog 119 #[bR F,I g] w (ee fun w'=>At af F m w m w' (S.ay g {x with res:=rr,aN:= -1,k:=0,ae:=31})):=by
 have eM:=cA hx;have mj:s<S.ah.length:=cA RY;have c3:=R.eu;have c9:=R.ed;obtain⟨aU,cm,fO,aY,dx,aZ,ez,dz,eB⟩:=R.b3X R.aB.al R.aB.gs R.aB.ah;obtain⟨g2,xV⟩:=R.ps hx 2 _ rfl;obtain⟨g7,gf7⟩:=R.ps hx 7 _ rfl;obtain⟨g15,tT⟩:=R.ps hx 15 _ rfl;obtain⟨g16,tU⟩:=R.ps hx 16 _ rfl;obtain⟨g17,tV⟩:=R.ps hx 17 _ rfl;obtain⟨g18,tW⟩:=R.ps hx 18 _ rfl;obtain⟨g19,tX⟩:=R.ps hx 19 _ rfl;obtain⟨g24,E5⟩:=R.ps hx 24 _ rfl;have s0:=R.s0 RY;have s1:=R.s RY 1 _ rfl;have s2:=R.s RY 2 _ rfl;have s3:=R.s RY 3 _ rfl;have s4:=R.s RY 4 _ rfl;have s5:=R.s RY 5 _ rfl;have s6:=R.s RY 6 _ rfl;rw[hs]at g7;have A1:=(At.refl R).res hx rr;have A2:=A1.g (az hx) {x with res:=rr,aN:= -1} (q:=7) (v:=I (-1));rw[aA]at A2;have A3:=A2.g (az hx) {x with res:=rr,aN:= -1,k:=0} (q:=24) (v:=I 0);rw[aA]at A3;have A4:=A3.g (az hx) {x with res:=rr,aN:= -1,k:=0,ae:=31} (q:=2) (v:=I 31);rw[aA]at A4;have A5:=(A4.alloc (.cells #[B sd.cK,I sd.g,I sd.ch,I sd.case,B sd.cF,I sd.v,B sd.done] 105)).alloc (.cells #[I rr.aJ,I rr.case,I rr.v,B rr.ok,I rr.n] 44);clear A1 A2 A3 A4;rcases hh with⟨hd,Ar,rfl⟩|⟨hd,Ar,rfl⟩|⟨hd,Ar,rfl⟩|⟨hd,Ar,rfl⟩
 all_goals
  rw[hd,Ar]at A5;dsimp only at A5;rw[hd]at s6;rw[Ar]at s4;have HA:=ag A5;clear A5 R hx hs RY hd Ar;unfold bR;go_enter func119,ntmps119;go_wp2_with fail
  go_region
  all_goals
   go_wp2
   first
    |(go_end0
      refine⟨rfl,?_⟩
      try simp only[Nat.add_assoc,Nat.reduceAdd]
      exact HA.out.drew)
    |(go_region
      all_goals go_wp2
      go_end0
      refine⟨rfl,?_⟩
      try simp only[Nat.add_assoc,Nat.reduceAdd]
      exact HA.out.drew.drew)
theorem MJ(S':Wd)(hm:uF S g=some S'):Calls prog 119 #[.pointer (some ⟨F.al,0,none⟩),I g] w (ee fun w'=>At af F m w m w' S'):=by
 unfold uF at hm;simp only[bW,cI]at hm;obtain⟨x,hx,s,hs,sd,RY,hm⟩:=hm;have hs:=du hs
 cases hm
 cases hd:sd.done<;>cases Ar:sd.cF
 ·have h:=vq R g x hx s hs sd RY _ (.inr (.inr (.inr ⟨hd,Ar,rfl⟩)));exact aY9
 ·have h:=vq R g x hx s hs sd RY _ (.inr (.inr (.inl ⟨hd,Ar,rfl⟩)));exact aY9
 ·have h:=vq R g x hx s hs sd RY _ (.inr (.inl ⟨hd,Ar,rfl⟩));exact aY9
 ·have h:=vq R g x hx s hs sd RY _ (.inl ⟨hd,Ar,rfl⟩);exact aY9
end
end
end Go.Proofs.YtadifmnmfnihdaaGreat
