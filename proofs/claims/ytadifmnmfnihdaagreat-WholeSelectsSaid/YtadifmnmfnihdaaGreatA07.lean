import Derived.Test.YtadifmnmfnihdaaGreatA02
set_option linter.all false
set_option maxRecDepth 100000
set_option maxHeartbeats 40000000
namespace Go.Proofs.YtadifmnmfnihdaaGreat.V
open Mach
structure bK(w w':Wd):Prop where
 ops:w'.gs.map (·.ops)=w.gs.map (·.ops)
 av:w'.av=w.av
 list:w'.list=w.list
 drawn:w'.drawn=w.drawn
 done:w'.done=w.done
 au:w'.au.length=w.au.length
theorem dW{gs:List bI}{g:Nat}{x x':bI}(hx:gs[g]?=some x)(h:x'.ops=x.ops):(gs.set g x').map (·.ops)=gs.map (·.ops):=by
 rw[List.map_set,h];apply List.ext_getElem?;intro i;rw[sW];split
 ·rename_i e;subst e;have:g<gs.length:=cA hx;rw[fv this,oZ]at hx;simp[this,hx]
 ·rfl
theorem bK.refl(w:Wd):bK w w:=⟨rfl,rfl,rfl,rfl,rfl,rfl⟩
theorem bK.trans{a b c:Wd}(h:bK a b)(k:bK b c):bK a c:=⟨k.ops.trans h.ops,k.av.trans h.av,k.list.trans h.list,k.drawn.trans h.drawn,k.done.trans h.done,k.au.trans h.au⟩
theorem Ring.C2{r:Ring}(h:r.Ok)(v:Int):(r.put v).1.Ok:=by
 obtain⟨h1,h2,h3,h4,h5⟩:=h;unfold Ring.put Ring.full;split
 ·exact⟨h1,h2,h3,h4,h5⟩
 ·rename_i e;simp only[decide_eq_true_eq]at e;constructor<;>simp<;>omega
theorem UN{r:Ring}(h:r.Ok)(h0:r.places≠[])(i:Int):(r.at_ i:Int)<r.places.length:=by
 have:0<r.places.length:=pd h0;unfold Ring.at_;have h1:=Int.emod_nonneg (r.first+i) (b:=(r.places.length:Int)) (by omega);have h2:=Int.emod_lt_of_pos (r.first+i) (b:=(r.places.length:Int)) (by omega);omega
theorem Ring.C3{r:Ring}(h:r.Ok):r.get.1.Ok:=by
 unfold Ring.get;split
 ·exact h
 ·rename_i e;obtain⟨h1,h2,h3,h4,h5⟩:=h;have cM:r.places≠[]:=by intro h0;rw[h0]at h4;simp at h4;omega
  have:=UN ⟨h1,h2,h3,h4,h5⟩ cM 1;constructor<;>simp<;>omega
theorem Ring.Kg{r:Ring}(h:r.Ok)(v:Int):(r.pass v).1.Ok:=by
 unfold Ring.pass;split
 ·exact h
 ·rename_i e;obtain⟨h1,h2,h3,h4,h5⟩:=h;have cM:r.places≠[]:=by intro h0;rw[h0]at h4;simp at h4;omega
  have:=UN ⟨h1,h2,h3,h4,h5⟩ cM 1;constructor<;>simp<;>omega
def ea(w:Wd)(g:Nat):Prop:=∃t,w.ax[g]?=some (0,t)
theorem SF{w:Wd}{g:Nat}(h:bU w.ax g=0)(hg:g<w.ax.length):ea w g:=by
 obtain⟨⟨s,t⟩,hb⟩:∃p,w.ax[g]?=some p:=⟨_,fv hg⟩;unfold bU idx at h;simp[hb]at h;subst h;exact⟨t,hb⟩
section
variable{w w':Wd}{ls:List (List Nat)}{g:Nat}{x x':bI}
theorem Inv.ku(I:Inv w ls)(hx:w.gs[g]?=some x)(hs:ea w g)(M:lH x x')(p:(x'.ae=14→x.ae=14)∧x'.ae≠19)(hL:Loc w.au.length x')(hh:∀c,aL x' c↔aL x c)(ho:x'.ops=x.ops):Inv (w.ay g x') ls∧bK w (w.ay g x'):=
 ⟨I.frame hx hs M p.1 p.2 hL rfl rfl rfl I.au rfl rfl (I.lock.same hx hh) rfl rfl rfl,dW hx ho,rfl,rfl,rfl,rfl,rfl⟩
theorem Inv.LN(I:Inv w ls)(hx:w.gs[g]?=some x)(hs:ea w g)(M:lH x x')(p:(x'.ae=14→x.ae=14)∧x'.ae≠19)(hL:Loc w.au.length x')(hh:∀c,aL x' c↔aL x c)(ho:x'.ops=x.ops){c:Nat}{r:Ring}(hr:r.Ok):Inv ((w.dZ c r).ay g x') ls∧bK w ((w.dZ c r).ay g x'):=
 ⟨I.frame hx hs M p.1 p.2 hL rfl rfl (by simp[Wd.dZ,Wd.ay]) (fun r' h'=>by
   simp only[Wd.dZ,Wd.ay]at h';rcases List.mem_or_eq_of_mem_set h' with h|h
   ·exact I.au r' h
   ·rw[h];exact hr) rfl rfl (I.lock.same hx hh) rfl rfl rfl,dW hx ho,rfl,rfl,rfl,rfl,by simp[Wd.dZ,Wd.ay]⟩
theorem Inv.same(I:Inv w ls)(e1:w'.gs=w.gs)(e2:w'.ax=w.ax)(e3:w'.au=w.au)(e5:w'.aO.length=w.aO.length)(e6:w'.aq=w.aq)(e8:w'.ah=w.ah)(e9:w'.aw=w.aw)(Lj:w'.ar=w.ar):Inv w' ls:=by
 cases w;cases w';simp only at*;subst e1 e2 e3 e6 e8 e9 Lj;exact⟨I.n8,I.ax,I.c8,e5.trans I.aO,I.aq,I.au,I.JZ,I.aS,I.bM,I.ar,I.q,I.loc,I.lock,I.cK,I.bY,I.bA,I.EJ,I.look,I.claim,I.pE,I.served,I.st,I.jn,I.pg,I.rf⟩
theorem gz(I:Inv w ls){ch:Int}(h:1≤ch∧ch≤w.au.length):cZ w ch=true∧∃r,kq w ch=some ((ch-1).toNat,r)∧r.Ok:=by
 obtain⟨r,hr⟩:∃r,w.au[(ch-1).toNat]?=some r:=⟨_,fv (by omega)⟩;refine⟨by unfold cZ;simp;omega,r,?_,I.au r (lf hr)⟩;unfold kq nat?;rw[aF (by omega)];simp only[bW,eN,hr]
theorem pj(I:Inv w ls)(hx:w.gs[g]?=some x)(h0:x.ae≠0):mf w g=some (aP x)∧Vz (aP x):=by
 have L:=I.loc g x hx;have hm:aP x∈x.ops:=by have h1:=L.Uy h0;have h2:=L.JY.1;unfold aP idx;rw[aF h2];obtain⟨o,ho⟩:∃o,x.ops[x.at_.toNat]?=some o:=⟨_,fv (by omega)⟩;rw[ho];exact lf ho
 have hR:=L.ops _ hm;refine⟨?_,hR⟩;unfold mf;rw[qd hx];have:=hR.ch;have:=hR.cl;rw[aF ⟨by unfold kJ;simp;omega,by omega⟩]
theorem oM(h1:x'.ops=x.ops)(h2:x'.at_=x.at_):aP x'=aP x:=by unfold aP;rw[h1,h2]
variable{C:Nat}
theorem M.s1a(L:Loc C x)(hk:(aP x).ai=4∨(aP x).ai=5)(hp:x.ae=1):lH x {x with ae:=4}∧Loc C {x with ae:=4}∧∀c,aL {x with ae:=4} c↔aL x c:=by
 have e:aP {x with ae:=4}=aP x:=rfl;obtain⟨l1,l2,l3,l4,l5,l6,l7,l8,l9,kN,kO,kP,kQ,kR,mT,mU,kS,mV,kT,kY,mW,kU,kV,kW⟩:=L;refine⟨?_,?_,?_⟩
 ·constructor<;>simp only[e,hp,aW,aT,bm,eV]at*<;>grind
 ·constructor<;>simp only[e,hp,aW,aT,bm,bG]at*<;>grind
 ·intro c;simp only[aL,e,cH,hp];grind
theorem M.s1b(L:Loc C x)(hk:(aP x).ai=4∨(aP x).ai=5)(hp:x.ae=1)(p:Int):lH x {x with point:=p,ae:=2}∧Loc C {x with point:=p,ae:=2}∧∀c,aL {x with point:=p,ae:=2} c↔aL x c:=by
 have e:aP {x with point:=p,ae:=2}=aP x:=rfl;obtain⟨l1,l2,l3,l4,l5,l6,l7,l8,l9,kN,kO,kP,kQ,kR,mT,mU,kS,mV,kT,kY,mW,kU,kV,kW⟩:=L;refine⟨?_,?_,?_⟩
 ·constructor<;>simp only[e,hp,aW,aT,bm,eV]at*<;>grind
 ·constructor<;>simp only[e,hp,aW,aT,bm,bG]at*<;>grind
 ·intro c;simp only[aL,e,cH,hp];grind
theorem M.s2a(L:Loc C x)(hk:(aP x).ai=4)(hp:x.ae=2):lH x {x with point:=0,ae:=4}∧Loc C {x with point:=0,ae:=4}∧∀c,aL {x with point:=0,ae:=4} c↔aL x c:=by
 have e:aP {x with point:=0,ae:=4}=aP x:=rfl;obtain⟨l1,l2,l3,l4,l5,l6,l7,l8,l9,kN,kO,kP,kQ,kR,mT,mU,kS,mV,kT,kY,mW,kU,kV,kW⟩:=L;refine⟨?_,?_,?_⟩
 ·constructor<;>simp only[e,hp,aW,aT,bm,eV]at*<;>grind
 ·constructor<;>simp only[e,hp,aW,aT,bm,bG]at*<;>grind
 ·intro c;simp only[aL,e,cH,hp];grind
theorem M.s2b(L:Loc C x)(hk:(aP x).ai=4∨(aP x).ai=5)(hp:x.ae=2):lH x {x with res:={x.res with aJ:=2},ae:=18}∧Loc C {x with res:={x.res with aJ:=2},ae:=18}∧∀c,aL {x with res:={x.res with aJ:=2},ae:=18} c↔aL x c:=by
 have e:aP {x with res:={x.res with aJ:=2},ae:=18}=aP x:=rfl;obtain⟨l1,l2,l3,l4,l5,l6,l7,l8,l9,kN,kO,kP,kQ,kR,mT,mU,kS,mV,kT,kY,mW,kU,kV,kW⟩:=L;refine⟨?_,?_,?_⟩
 ·constructor<;>simp only[e,hp,aW,aT,bm,eV]at*<;>grind
 ·constructor<;>simp only[e,hp,aW,aT,bm,bG]at*<;>grind
 ·intro c;simp only[aL,e,cH,hp];grind
theorem M.r2a(L:Loc C x)(hk:(aP x).ai=5)(hp:x.ae=2):lH x {x with ae:=3}∧Loc C {x with ae:=3}∧∀c,aL {x with ae:=3} c↔aL x c:=by
 have e:aP {x with ae:=3}=aP x:=rfl;obtain⟨l1,l2,l3,l4,l5,l6,l7,l8,l9,kN,kO,kP,kQ,kR,mT,mU,kS,mV,kT,kY,mW,kU,kV,kW⟩:=L;refine⟨?_,?_,?_⟩
 ·constructor<;>simp only[e,hp,aW,aT,bm,eV]at*<;>grind
 ·constructor<;>simp only[e,hp,aW,aT,bm,bG]at*<;>grind
 ·intro c;simp only[aL,e,cH,hp];grind
theorem M.r3a(L:Loc C x)(hk:(aP x).ai=5)(hp:x.ae=3):lH x {x with point:=0,ae:=4}∧Loc C {x with point:=0,ae:=4}∧∀c,aL {x with point:=0,ae:=4} c↔aL x c:=by
 have e:aP {x with point:=0,ae:=4}=aP x:=rfl;obtain⟨l1,l2,l3,l4,l5,l6,l7,l8,l9,kN,kO,kP,kQ,kR,mT,mU,kS,mV,kT,kY,mW,kU,kV,kW⟩:=L;refine⟨?_,?_,?_⟩
 ·constructor<;>simp only[e,hp,aW,aT,bm,eV]at*<;>grind
 ·constructor<;>simp only[e,hp,aW,aT,bm,bG]at*<;>grind
 ·intro c;simp only[aL,e,cH,hp];grind
theorem M.r3b(L:Loc C x)(hk:(aP x).ai=5)(hp:x.ae=3)(p:Int):lH x {x with res:={aJ:=1,case:= -1},point:=p,ae:=18}∧Loc C {x with res:={aJ:=1,case:= -1},point:=p,ae:=18}∧∀c,aL {x with res:={aJ:=1,case:= -1},point:=p,ae:=18} c↔aL x c:=by
 have e:aP {x with res:={aJ:=1,case:= -1},point:=p,ae:=18}=aP x:=rfl;obtain⟨l1,l2,l3,l4,l5,l6,l7,l8,l9,kN,kO,kP,kQ,kR,mT,mU,kS,mV,kT,kY,mW,kU,kV,kW⟩:=L;refine⟨?_,?_,?_⟩
 ·constructor<;>simp only[e,hp,aW,aT,bm,eV]at*<;>grind
 ·constructor<;>simp only[e,hp,aW,aT,bm,bG]at*<;>grind
 ·intro c;simp only[aL,e,cH,hp];grind
theorem M.s5a(L:Loc C x)(hk:2≤(aP x).ai∧(aP x).ai≤5)(hp:x.ae=5)(p:Int)(r:nP)(hr:r.case= -1):lH x {x with res:=r,point:=p,ae:=16}∧Loc C {x with res:=r,point:=p,ae:=16}∧∀c,aL {x with res:=r,point:=p,ae:=16} c↔aL x c:=by
 have e:aP {x with res:=r,point:=p,ae:=16}=aP x:=rfl;obtain⟨l1,l2,l3,l4,l5,l6,l7,l8,l9,kN,kO,kP,kQ,kR,mT,mU,kS,mV,kT,kY,mW,kU,kV,kW⟩:=L;refine⟨?_,?_,?_⟩
 ·constructor<;>simp only[e,hp,aW,aT,bm,eV]at*<;>grind
 ·constructor<;>simp only[e,hp,aW,aT,bm,bG]at*<;>grind
 ·intro c;simp only[aL,e,cH,hp];grind
theorem M.s5b(L:Loc C x)(hk:2≤(aP x).ai∧(aP x).ai≤5)(hp:x.ae=5):lH x {x with ae:=6}∧Loc C {x with ae:=6}∧∀c,aL {x with ae:=6} c↔aL x c:=by
 have e:aP {x with ae:=6}=aP x:=rfl;obtain⟨l1,l2,l3,l4,l5,l6,l7,l8,l9,kN,kO,kP,kQ,kR,mT,mU,kS,mV,kT,kY,mW,kU,kV,kW⟩:=L;refine⟨?_,?_,?_⟩
 ·constructor<;>simp only[e,hp,aW,aT,bm,eV]at*<;>grind
 ·constructor<;>simp only[e,hp,aW,aT,bm,bG]at*<;>grind
 ·intro c;simp only[aL,e,cH,hp];grind
theorem M.s5c(L:Loc C x)(hk:2≤(aP x).ai∧(aP x).ai≤5)(hp:x.ae=5):lH x {x with ae:=9}∧Loc C {x with ae:=9}∧∀c,aL {x with ae:=9} c↔aL x c:=by
 have e:aP {x with ae:=9}=aP x:=rfl;obtain⟨l1,l2,l3,l4,l5,l6,l7,l8,l9,kN,kO,kP,kQ,kR,mT,mU,kS,mV,kT,kY,mW,kU,kV,kW⟩:=L;refine⟨?_,?_,?_⟩
 ·constructor<;>simp only[e,hp,aW,aT,bm,eV]at*<;>grind
 ·constructor<;>simp only[e,hp,aW,aT,bm,bG]at*<;>grind
 ·intro c;simp only[aL,e,cH,hp];grind
theorem M.s6(L:Loc C x)(hk:2≤(aP x).ai∧(aP x).ai≤5)(hp:x.ae=6):lH x {x with ae:=9}∧Loc C {x with ae:=9}∧∀c,aL {x with ae:=9} c↔aL x c:=by
 have e:aP {x with ae:=9}=aP x:=rfl;obtain⟨l1,l2,l3,l4,l5,l6,l7,l8,l9,kN,kO,kP,kQ,kR,mT,mU,kS,mV,kT,kY,mW,kU,kV,kW⟩:=L;refine⟨?_,?_,?_⟩
 ·constructor<;>simp only[e,hp,aW,aT,bm,eV]at*<;>grind
 ·constructor<;>simp only[e,hp,aW,aT,bm,bG]at*<;>grind
 ·intro c;simp only[aL,e,cH,hp];grind
theorem M.s9a(L:Loc C x)(hk:2≤(aP x).ai∧(aP x).ai≤5)(hp:x.ae=9)(p:Int)(r:nP)(hr:r.case= -1):lH x {x with res:=r,point:=p,ae:=16}∧Loc C {x with res:=r,point:=p,ae:=16}∧∀c,aL {x with res:=r,point:=p,ae:=16} c↔aL x c:=by
 have e:aP {x with res:=r,point:=p,ae:=16}=aP x:=rfl;obtain⟨l1,l2,l3,l4,l5,l6,l7,l8,l9,kN,kO,kP,kQ,kR,mT,mU,kS,mV,kT,kY,mW,kU,kV,kW⟩:=L;refine⟨?_,?_,?_⟩
 ·constructor<;>simp only[e,hp,aW,aT,bm,eV]at*<;>grind
 ·constructor<;>simp only[e,hp,aW,aT,bm,bG]at*<;>grind
 ·intro c;simp only[aL,e,cH,hp];grind
theorem M.s9b(L:Loc C x)(hk:(aP x).ai=2∨(aP x).ai=3)(hp:x.ae=9):lH x {x with ae:=10}∧Loc C {x with ae:=10}∧∀c,aL {x with ae:=10} c↔aL x c:=by
 have e:aP {x with ae:=10}=aP x:=rfl;obtain⟨l1,l2,l3,l4,l5,l6,l7,l8,l9,kN,kO,kP,kQ,kR,mT,mU,kS,mV,kT,kY,mW,kU,kV,kW⟩:=L;refine⟨?_,?_,?_⟩
 ·constructor<;>simp only[e,hp,aW,aT,bm,eV]at*<;>grind
 ·constructor<;>simp only[e,hp,aW,aT,bm,bG]at*<;>grind
 ·intro c;simp only[aL,e,cH,hp];grind
theorem M.V1(L:Loc C x)(hk:(aP x).ai=2∨(aP x).ai=3)(hp:x.ae=10):lH x {x with res:={x.res with aJ:=6},ae:=16}∧Loc C {x with res:={x.res with aJ:=6},ae:=16}∧∀c,aL {x with res:={x.res with aJ:=6},ae:=16} c↔aL x c:=by
 have e:aP {x with res:={x.res with aJ:=6},ae:=16}=aP x:=rfl;obtain⟨l1,l2,l3,l4,l5,l6,l7,l8,l9,kN,kO,kP,kQ,kR,mT,mU,kS,mV,kT,kY,mW,kU,kV,kW⟩:=L;refine⟨?_,?_,?_⟩
 ·constructor<;>simp only[e,hp,aW,aT,bm,eV]at*<;>grind
 ·constructor<;>simp only[e,hp,aW,aT,bm,bG]at*<;>grind
 ·intro c;simp only[aL,e,cH,hp];grind
theorem M.am1(L:Loc C x)(hk:(aP x).ai=6)(hp:x.ae=21)(p:Int)(r:nP)(hr:r.case= -1):lH x {x with point:=p,res:=r,ae:=16}∧Loc C {x with point:=p,res:=r,ae:=16}∧∀c,aL {x with point:=p,res:=r,ae:=16} c↔aL x c:=by
 have e:aP {x with point:=p,res:=r,ae:=16}=aP x:=rfl;obtain⟨l1,l2,l3,l4,l5,l6,l7,l8,l9,kN,kO,kP,kQ,kR,mT,mU,kS,mV,kT,kY,mW,kU,kV,kW⟩:=L;refine⟨?_,?_,?_⟩
 ·constructor<;>simp only[e,hp,aW,aT,bm,eV]at*<;>grind
 ·constructor<;>simp only[e,hp,aW,aT,bm,bG]at*<;>grind
 ·intro c;simp only[aL,e,cH,hp];grind
theorem M.am2(L:Loc C x)(hk:(aP x).ai=6)(hp:x.ae=21)(p:Int)(r:nP)(hr:r.case= -1):lH x {x with point:=p,res:=r,ae:=22}∧Loc C {x with point:=p,res:=r,ae:=22}∧∀c,aL {x with point:=p,res:=r,ae:=22} c↔aL x c:=by
 have e:aP {x with point:=p,res:=r,ae:=22}=aP x:=rfl;obtain⟨l1,l2,l3,l4,l5,l6,l7,l8,l9,kN,kO,kP,kQ,kR,mT,mU,kS,mV,kT,kY,mW,kU,kV,kW⟩:=L;refine⟨?_,?_,?_⟩
 ·constructor<;>simp only[e,hp,aW,aT,bm,eV]at*<;>grind
 ·constructor<;>simp only[e,hp,aW,aT,bm,bG]at*<;>grind
 ·intro c;simp only[aL,e,cH,hp];grind
theorem M.h22(L:Loc C x)(hk:(aP x).ai=6)(hp:x.ae=22):lH x {x with ae:=16}∧Loc C {x with ae:=16}∧∀c,aL {x with ae:=16} c↔aL x c:=by
 have e:aP {x with ae:=16}=aP x:=rfl;obtain⟨l1,l2,l3,l4,l5,l6,l7,l8,l9,kN,kO,kP,kQ,kR,mT,mU,kS,mV,kT,kY,mW,kU,kV,kW⟩:=L;refine⟨?_,?_,?_⟩
 ·constructor<;>simp only[e,hp,aW,aT,bm,eV]at*<;>grind
 ·constructor<;>simp only[e,hp,aW,aT,bm,bG]at*<;>grind
 ·intro c;simp only[aL,e,cH,hp];grind
theorem M.o20(L:Loc C x)(hk:(aP x).ai≠9)(hp:x.ae=20)(p:Int)(r:nP)(hr:r.case= -1):lH x {x with res:=r,point:=p,ae:=18}∧Loc C {x with res:=r,point:=p,ae:=18}∧∀c,aL {x with res:=r,point:=p,ae:=18} c↔aL x c:=by
 have e:aP {x with res:=r,point:=p,ae:=18}=aP x:=rfl;obtain⟨l1,l2,l3,l4,l5,l6,l7,l8,l9,kN,kO,kP,kQ,kR,mT,mU,kS,mV,kT,kY,mW,kU,kV,kW⟩:=L;refine⟨?_,?_,?_⟩
 ·constructor<;>simp only[e,hp,aW,aT,bm,eV]at*<;>grind
 ·constructor<;>simp only[e,hp,aW,aT,bm,bG]at*<;>grind
 ·intro c;simp only[aL,e,cH,hp];grind
end
section
variable{w w':Wd}{ls:List (List Nat)}{g:Nat}{x x':bI}{C:Nat}
theorem gU.mk'(h:gU C x)(h1:aP x'=aP x)(h2:x'.aH=x.aH)(h3:x'.aq=x.aq):gU C x':=by
 obtain⟨a1,a2,a3,a4,a5,a6,a7⟩:=h;exact⟨by rw[h2];exact a1,by rw[h1,h2,h3];exact a2,by rw[h2];exact a3,by rw[h2];exact a4,by rw[h3];exact a5,by rw[h3];exact a6,by rw[h3];exact a7⟩
theorem qj{l:List Int}{k:Nat}{c:Int}(h:k<l.length):c∈l.take (k+1)↔c∈l.take k∨l[k]?=some c:=by
 rw[List.take_succ,fv h];simp only[Option.toList_some,List.mem_append,List.mem_singleton,oZ];exact or_congr Iff.rfl ⟨fun h=>h.symm,fun h=>h.symm⟩
theorem OD{l:List Int}(ha:l.Pairwise (· <·)){k:Nat}{c:Int}(h:l[k]?=some c):c ∉ l.take k:=by
 intro hm;obtain⟨j,hj,e⟩:=List.getElem_of_mem hm;rw[tC]at hj;obtain⟨hk,e2⟩:=uC h;rw[List.getElem_take]at e;have:=List.pairwise_iff_getElem.1 ha j k (by omega) hk (by omega);omega
theorem M.V2(L:Loc C x)(hk:(aP x).ai=9)(hp:x.ae=13):lH x {x with ae:=14}∧Loc C {x with ae:=14}∧∀c,aL {x with ae:=14} c↔aL x c:=by
 have e:aP {x with ae:=14}=aP x:=rfl;obtain⟨s1,s2,s3⟩:=L.oW hk (by omega) (by omega) (by omega) (by omega);have cP:=s1.Ei;have ja:=s1.ne;have fX:=s1.BD;have hpos:0<x.aq.length:=pd cP;have nT:0<x.aH.length:=pd ja
 have nL:gU C {x with ae:=14}∧Ej {x with ae:=14}∧nm {x with ae:=14}:=by
  refine⟨s1.mk' rfl rfl rfl,?_,?_⟩
  ·refine⟨fun h=>?_,fun h=>?_,fun h=>?_⟩<;>simp only[hp]at h ⊢<;>omega
  ·obtain⟨a1,a2,a3,a4,a5,a6,a7⟩:=s3;clear fX cP ja s1 s2 L;constructor<;>simp only[hp,e]at*<;>grind
 have dJ:∀c,aL {x with ae:=14} c↔aL x c:=by
  intro c;unfold aL;rw[e,aF hk,aF hk];have e1:bC x=0:=by simp[bC,hp]
  have e2:bC {x with ae:=14}=0:=by simp[bC,hp]
  rw[e1,e2]
 have iw:cV (aP x) C {x with ae:=14}↔cV (aP x) C x:=Iff.rfl;obtain⟨l1,l2,l3,l4,l5,l6,l7,l8,l9,kN,kO,kP,kQ,kR,mT,mU,kS,mV,kT,kY,mW,kU,kV,kW⟩:=L;clear l8 fX;refine⟨?_,?_,dJ⟩
 ·clear l1 l2 l3 l4 l5 l6 l7 l9 kN kO kP kQ kR kS kT kY kU kV kW nL dJ s1 s3;constructor<;>simp only[e,hp,aW,aT,bm,eV]at*<;>grind
 ·clear dJ s1 s3 s2;constructor<;>simp only[e,hp,aW,aT,bm,bG]at*<;>grind
theorem M.c14(L:Loc C x)(hk:(aP x).ai=9)(hp:x.ae=14)(hq:0≤x.aN)(r:nP)(hr:r.aJ≠0)(C5:cV (aP x) C {x with res:=r}):Loc C {x with res:=r,aN:= -1,k:=0,ae:=31}∧∀c,aL {x with res:=r,aN:= -1,k:=0,ae:=31} c↔aL x c:=by
 have e:aP {x with res:=r,aN:= -1,k:=0,ae:=31}=aP x:=rfl;obtain⟨s1,s2,s3⟩:=L.oW hk (by omega) (by omega) (by omega) (by omega);have cP:=s1.Ei;have ja:=s1.ne;have fX:=s1.BD;have hpos:0<x.aq.length:=pd cP;have nT:0<x.aH.length:=pd ja
 have nL:gU C {x with res:=r,aN:= -1,k:=0,ae:=31}∧Ej {x with res:=r,aN:= -1,k:=0,ae:=31}∧nm {x with res:=r,aN:= -1,k:=0,ae:=31}:=by
  refine⟨s1.mk' rfl rfl rfl,?_,?_⟩
  ·refine⟨fun h=>?_,fun h=>?_,fun h=>?_⟩<;>simp only[hp]at h ⊢<;>omega
  ·obtain⟨a1,a2,a3,a4,a5,a6,a7⟩:=s3;clear fX cP ja s1 s2 L;constructor<;>simp only[hp,e]at*<;>grind
 have dJ:∀c,aL {x with res:=r,aN:= -1,k:=0,ae:=31} c↔aL x c:=by
  intro c;unfold aL;rw[e,aF hk,aF hk];have e1:bC x=0:=by simp[bC,hp]
  have e2:bC {x with res:=r,aN:= -1,k:=0,ae:=31}=0:=by simp[bC,hp]
  rw[e1,e2]
 have iw:cV (aP x) C {x with res:=r,aN:= -1,k:=0,ae:=31}:=C5;obtain⟨l1,l2,l3,l4,l5,l6,l7,l8,l9,kN,kO,kP,kQ,kR,mT,mU,kS,mV,kT,kY,mW,kU,kV,kW⟩:=L;clear l8 fX;refine⟨?_,dJ⟩
 ·clear dJ s1 s3 s2;constructor<;>simp only[e,hp,aW,aT,bm,bG]at*<;>grind
theorem M.gA(L:Loc C x)(hk:(aP x).ai=9){y:bI}(h:(x.ae=24∧(x.k+1<x.aq.length)∧y={x with k:=x.k+1})∨(x.ae=24∧(x.k+1=x.aq.length)∧y={x with k:=0,ae:=25})∨(x.ae=31∧(x.k+1<x.aq.length)∧y={x with k:=x.k+1})∨(x.ae=31∧(x.k+1=x.aq.length)∧y={x with k:=0,ae:=32})):lH x y∧Loc C y∧∀c,aL y c↔aL x c∨x.aq[x.k.toNat]?=some c:=by
 rcases h with⟨hp,jg,hy⟩|⟨hp,jg,hy⟩|⟨hp,jg,hy⟩|⟨hp,jg,hy⟩
 all_goals
  have e:aP y=aP x:=by subst hy;rfl
  obtain⟨s1,s2,s3⟩:=L.oW hk (by omega) (by omega) (by omega) (by omega);have cP:=s1.Ei;have ja:=s1.ne;have fX:=s1.BD;have hpos:0<x.aq.length:=pd cP;have nT:0<x.aH.length:=pd ja;have kE:=s2.1 (by omega)
  have nL:gU C y∧Ej y∧nm y:=by
   subst hy;refine⟨s1.mk' rfl rfl rfl,?_,?_⟩
   ·refine⟨fun h=>?_,fun h=>?_,fun h=>?_⟩<;>simp only[hp]at h ⊢<;>omega
   ·obtain⟨a1,a2,a3,a4,a5,a6,a7⟩:=s3;clear fX cP ja s1 s2 L;constructor<;>simp only[hp,e]at*<;>grind
  have dJ:∀c,aL y c↔aL x c∨x.aq[x.k.toNat]?=some c:=by intro c;unfold aL;rw[e,aF hk,aF hk];have e1:bC x=x.k.toNat:=(by simp[bC,hp]);have e2:bC y=x.k.toNat+1:=(by subst hy;simp[bC,hp];omega);rw[e1,e2];have pJ:y.aq=x.aq:=(by subst hy;rfl);rw[pJ];have dD:x.k.toNat<x.aq.length:=(by omega);exact qj dD
  have iw:cV (aP x) C y↔cV (aP x) C x:=by subst hy;exact Iff.rfl
  subst hy;obtain⟨l1,l2,l3,l4,l5,l6,l7,l8,l9,kN,kO,kP,kQ,kR,mT,mU,kS,mV,kT,kY,mW,kU,kV,kW⟩:=L;clear l8 fX;refine⟨?_,?_,dJ⟩
  ·clear l1 l2 l3 l4 l5 l6 l7 l9 kN kO kP kQ kR kS kT kY kU kV kW nL dJ s1 s3;constructor<;>simp only[e,hp,aW,aT,bm,eV]at*<;>grind
  ·clear dJ s1 s3 s2;constructor<;>simp only[e,hp,aW,aT,bm,bG]at*<;>grind
theorem M.am3(L:Loc C x)(hk:(aP x).ai=9)(hp:x.ae=24)(jg:x.k+1<x.aq.length):lH x {x with k:=x.k+1}∧Loc C {x with k:=x.k+1}∧∀c,aL {x with k:=x.k+1} c↔aL x c∨x.aq[x.k.toNat]?=some c:=M.gA L hk (.inl ⟨hp,jg,rfl⟩)
theorem M.am4(L:Loc C x)(hk:(aP x).ai=9)(hp:x.ae=24)(jg:x.k+1=x.aq.length):lH x {x with k:=0,ae:=25}∧Loc C {x with k:=0,ae:=25}∧∀c,aL {x with k:=0,ae:=25} c↔aL x c∨x.aq[x.k.toNat]?=some c:=M.gA L hk (.inr (.inl ⟨hp,jg,rfl⟩))
theorem M.am5(L:Loc C x)(hk:(aP x).ai=9)(hp:x.ae=31)(jg:x.k+1<x.aq.length):lH x {x with k:=x.k+1}∧Loc C {x with k:=x.k+1}∧∀c,aL {x with k:=x.k+1} c↔aL x c∨x.aq[x.k.toNat]?=some c:=M.gA L hk (.inr (.inr (.inl ⟨hp,jg,rfl⟩)))
theorem M.am6(L:Loc C x)(hk:(aP x).ai=9)(hp:x.ae=31)(jg:x.k+1=x.aq.length):lH x {x with k:=0,ae:=32}∧Loc C {x with k:=0,ae:=32}∧∀c,aL {x with k:=0,ae:=32} c↔aL x c∨x.aq[x.k.toNat]?=some c:=M.gA L hk (.inr (.inr (.inr ⟨hp,jg,rfl⟩)))
theorem M.gS(L:Loc C x)(hk:(aP x).ai=9){y:bI}(h:(x.ae=25∧(x.k+1<x.aH.length)∧y={x with k:=x.k+1})∨(x.ae=25∧∃(r:nP) (p:Int),(r.aJ=1∨r.aJ=2∨r.aJ=3)∧(cV (aP x) C {x with res:=r,point:=p,fire:=r.case})∧y={x with res:=r,point:=p,fire:=r.case,k:=x.aq.length,ae:=30})∨(x.ae=26∧y={x with br:= -1,ae:=25})∨(x.ae=27∧∃(r:nP),(r.aJ=1)∧(cV (aP x) C {x with res:=r})∧y={x with res:=r,br:= -1,k:=x.aq.length,ae:=30})):lH x y∧Loc C y∧∀c,aL y c↔aL x c:=by
 rcases h with⟨hp,jg,hy⟩|⟨hp,r,p,hr,C5,hy⟩|⟨hp,hy⟩|⟨hp,r,hr,C5,hy⟩
 all_goals
  have e:aP y=aP x:=by subst hy;rfl
  obtain⟨s1,s2,s3⟩:=L.oW hk (by omega) (by omega) (by omega) (by omega);have cP:=s1.Ei;have ja:=s1.ne;have fX:=s1.BD;have hpos:0<x.aq.length:=pd cP;have nT:0<x.aH.length:=pd ja;have kE:=s2.2.2 (by omega)
  have nL:gU C y∧Ej y∧nm y:=by
   subst hy;refine⟨s1.mk' rfl rfl rfl,?_,?_⟩
   ·refine⟨fun h=>?_,fun h=>?_,fun h=>?_⟩<;>simp only[hp]at h ⊢<;>omega
   ·obtain⟨a1,a2,a3,a4,a5,a6,a7⟩:=s3;clear fX cP ja s1 s2 L;constructor<;>simp only[hp,e]at*<;>grind
  have dJ:∀c,aL y c↔aL x c:=by intro c;unfold aL;rw[e,aF hk,aF hk];have e1:bC x=x.aq.length:=(by simp[bC,hp]);have e2:bC y=x.aq.length:=(by subst hy;simp[bC,hp]);have pJ:y.aq=x.aq:=(by subst hy;rfl);rw[e1,e2,pJ]
  first|(have iw:cV (aP x) C y:=by subst hy;exact C5)|(have iw:cV (aP x) C y↔cV (aP x) C x:=by subst hy;exact Iff.rfl)
  subst hy;obtain⟨l1,l2,l3,l4,l5,l6,l7,l8,l9,kN,kO,kP,kQ,kR,mT,mU,kS,mV,kT,kY,mW,kU,kV,kW⟩:=L;clear l8 fX;refine⟨?_,?_,dJ⟩
  ·clear l1 l2 l3 l4 l5 l6 l7 l9 kN kO kP kQ kR kS kT kY kU kV kW nL dJ s1 s3;constructor<;>simp only[e,hp,aW,aT,bm,eV]at*<;>grind
  ·clear dJ s1 s3 s2;constructor<;>simp only[e,hp,aW,aT,bm,bG]at*<;>grind
theorem M.am7(L:Loc C x)(hk:(aP x).ai=9)(hp:x.ae=25)(jg:x.k+1<x.aH.length):lH x {x with k:=x.k+1}∧Loc C {x with k:=x.k+1}∧∀c,aL {x with k:=x.k+1} c↔aL x c:=M.gS L hk (.inl ⟨hp,jg,rfl⟩)
theorem M.am8(L:Loc C x)(hk:(aP x).ai=9)(hp:x.ae=25)(r:nP)(p:Int)(hr:r.aJ=1∨r.aJ=2∨r.aJ=3)(C5:cV (aP x) C {x with res:=r,point:=p,fire:=r.case}):lH x {x with res:=r,point:=p,fire:=r.case,k:=x.aq.length,ae:=30}∧Loc C {x with res:=r,point:=p,fire:=r.case,k:=x.aq.length,ae:=30}∧∀c,aL {x with res:=r,point:=p,fire:=r.case,k:=x.aq.length,ae:=30} c↔aL x c:=M.gS L hk (.inr (.inl ⟨hp,r,p,hr,C5,rfl⟩))
theorem M.am9(L:Loc C x)(hk:(aP x).ai=9)(hp:x.ae=26):lH x {x with br:= -1,ae:=25}∧Loc C {x with br:= -1,ae:=25}∧∀c,aL {x with br:= -1,ae:=25} c↔aL x c:=M.gS L hk (.inr (.inr (.inl ⟨hp,rfl⟩)))
theorem M.c27(L:Loc C x)(hk:(aP x).ai=9)(hp:x.ae=27)(r:nP)(hr:r.aJ=1)(C5:cV (aP x) C {x with res:=r}):lH x {x with res:=r,br:= -1,k:=x.aq.length,ae:=30}∧Loc C {x with res:=r,br:= -1,k:=x.aq.length,ae:=30}∧∀c,aL {x with res:=r,br:= -1,k:=x.aq.length,ae:=30} c↔aL x c:=M.gS L hk (.inr (.inr (.inr ⟨hp,r,hr,C5,rfl⟩)))
theorem M.an0(L:Loc C x)(hk:(aP x).ai=9)(hp:x.ae=25)(he:(aP x).dG=false):Loc C {x with bA:=List.replicate (aP x).cases.length (-1),k:=0,ae:=28}∧∀c,aL {x with bA:=List.replicate (aP x).cases.length (-1),k:=0,ae:=28} c↔aL x c:=by
 have e:aP {x with bA:=List.replicate (aP x).cases.length (-1),k:=0,ae:=28}=aP x:=rfl;obtain⟨s1,s2,s3⟩:=L.oW hk (by omega) (by omega) (by omega) (by omega);have cP:=s1.Ei;have ja:=s1.ne;have fX:=s1.BD;have hpos:0<x.aq.length:=pd cP;have nT:0<x.aH.length:=pd ja;have kE:=s2.2.2 (by omega)
 have nL:gU C {x with bA:=List.replicate (aP x).cases.length (-1),k:=0,ae:=28}∧Ej {x with bA:=List.replicate (aP x).cases.length (-1),k:=0,ae:=28}∧nm {x with bA:=List.replicate (aP x).cases.length (-1),k:=0,ae:=28}:=by
  refine⟨s1.mk' rfl rfl rfl,?_,?_⟩
  ·refine⟨fun h=>?_,fun h=>?_,fun h=>?_⟩<;>simp only[hp]at h ⊢<;>omega
  ·refine⟨fun h=>(by simp at h),fun _=>(by simp only[vE];rw[e]),fun i s hs cM=>?_,fun h=>(by simp at h),fun h=>(by simp at h),fun _ j i hj ho=>?_,fun _ j i hj ho=>(by simp only at hj;omega)⟩
   ·simp only[uA]at hs;split at hs
    ·cases hs;exact aX rfl cM
    ·cases hs
   ·obtain⟨h0,c,hc,_⟩:=s1.ord i (lf ho);have:=cA hc;simp only[uA];rw[aF this]
 have dJ:∀c,aL {x with bA:=List.replicate (aP x).cases.length (-1),k:=0,ae:=28} c↔aL x c:=by
  intro c;unfold aL;rw[e,aF hk,aF hk];have e1:bC x=x.aq.length:=by simp[bC,hp]
  have e2:bC {x with bA:=List.replicate (aP x).cases.length (-1),k:=0,ae:=28}=x.aq.length:=by simp[bC,hp]
  rw[e1,e2]
 obtain⟨l1,l2,l3,l4,l5,l6,l7,l8,l9,kN,kO,kP,kQ,kR,mT,mU,kS,mV,kT,kY,mW,kU,kV,kW⟩:=L;clear l8 fX;refine⟨?_,dJ⟩
 ·clear dJ s1 s3 s2;constructor<;>simp only[e,hp,aW,aT,bm,bG]at*<;>grind
theorem M.gT(L:Loc C x)(hk:(aP x).ai=9){y:bI}(h:(x.ae=25∧∃(s:Nat),y={x with br:=s,ae:=26})∨(x.ae=25∧∃(s:Nat) (t p q:Int) (f:Int),(∃j:Nat,x.k=j∧x.aH[j]?=some f)∧y={x with br:=s,t:=t,point:=p,bF:=q,fire:=f,ae:=27})∨(x.ae=26∧∃(t p q:Int) (f:Int),(∃j:Nat,x.k=j∧x.aH[j]?=some f)∧y={x with t:=t,point:=p,bF:=q,fire:=f,ae:=27})∨(x.ae=28∧y={x with res:={x.res with aJ:=6},k:=x.aq.length,ae:=30})):Loc C y∧∀c,aL y c↔aL x c:=by
 rcases h with⟨hp,s,hy⟩|⟨hp,s,t,p,q,f,hf,hy⟩|⟨hp,t,p,q,f,hf,hy⟩|⟨hp,hy⟩
 all_goals
  have e:aP y=aP x:=by subst hy;rfl
  obtain⟨s1,s2,s3⟩:=L.oW hk (by omega) (by omega) (by omega) (by omega);have cP:=s1.Ei;have ja:=s1.ne;have fX:=s1.BD;have hpos:0<x.aq.length:=pd cP;have nT:0<x.aH.length:=pd ja;have kE:=s2.2.2 (by omega)
  have nL:gU C y∧Ej y∧nm y:=by
   subst hy;refine⟨s1.mk' rfl rfl rfl,?_,?_⟩
   ·refine⟨fun h=>?_,fun h=>?_,fun h=>?_⟩<;>simp only[hp]at h ⊢<;>omega
   ·obtain⟨a1,a2,a3,a4,a5,a6,a7⟩:=s3;clear fX cP ja s1 s2 L;constructor<;>simp only[hp,e]at*<;>grind
  have dJ:∀c,aL y c↔aL x c:=by intro c;unfold aL;rw[e,aF hk,aF hk];have e1:bC x=x.aq.length:=(by simp[bC,hp]);have e2:bC y=x.aq.length:=(by subst hy;simp[bC,hp]);have pJ:y.aq=x.aq:=(by subst hy;rfl);rw[e1,e2,pJ]
  first|(have iw:cV (aP x) C y:=by subst hy;exact .inr (.inr ⟨rfl,L.dG hp,(L.cO hk (by omega)).2.1⟩))|(have iw:cV (aP x) C y↔cV (aP x) C x:=by subst hy;exact Iff.rfl)|(skip)
  subst hy;obtain⟨l1,l2,l3,l4,l5,l6,l7,l8,l9,kN,kO,kP,kQ,kR,mT,mU,kS,mV,kT,kY,mW,kU,kV,kW⟩:=L;clear l8 fX;refine⟨?_,dJ⟩
  ·clear dJ s1 s3 s2;constructor<;>simp only[e,hp,aW,aT,bm,bG]at*<;>grind
theorem M.an1(L:Loc C x)(hk:(aP x).ai=9)(hp:x.ae=25)(s:Nat):Loc C {x with br:=s,ae:=26}∧∀c,aL {x with br:=s,ae:=26} c↔aL x c:=M.gT L hk (.inl ⟨hp,s,rfl⟩)
theorem M.an2(L:Loc C x)(hk:(aP x).ai=9)(hp:x.ae=25)(s:Nat)(t p q:Int)(f:Int)(hf:∃j:Nat,x.k=j∧x.aH[j]?=some f):Loc C {x with br:=s,t:=t,point:=p,bF:=q,fire:=f,ae:=27}∧∀c,aL {x with br:=s,t:=t,point:=p,bF:=q,fire:=f,ae:=27} c↔aL x c:=M.gT L hk (.inr (.inl ⟨hp,s,t,p,q,f,hf,rfl⟩))
theorem M.an3(L:Loc C x)(hk:(aP x).ai=9)(hp:x.ae=26)(t p q:Int)(f:Int)(hf:∃j:Nat,x.k=j∧x.aH[j]?=some f):Loc C {x with t:=t,point:=p,bF:=q,fire:=f,ae:=27}∧∀c,aL {x with t:=t,point:=p,bF:=q,fire:=f,ae:=27} c↔aL x c:=M.gT L hk (.inr (.inr (.inl ⟨hp,t,p,q,f,hf,rfl⟩)))
theorem M.an4(L:Loc C x)(hk:(aP x).ai=9)(hp:x.ae=28):Loc C {x with res:={x.res with aJ:=6},k:=x.aq.length,ae:=30}∧∀c,aL {x with res:={x.res with aJ:=6},k:=x.aq.length,ae:=30} c↔aL x c:=M.gT L hk (.inr (.inr (.inr ⟨hp,rfl⟩)))
theorem M.gR(L:Loc C x)(hk:(aP x).ai=9){y:bI}(h:(x.ae=30∧(1<x.k)∧y={x with k:=x.k-1})∨(x.ae=30∧(x.k=1)∧(x.res.aJ=0)∧y={x with k:=x.k-1,ae:=13})∨(x.ae=30∧(x.k=1)∧(x.res.aJ≠0)∧(x.bA≠[])∧y={x with k:=x.k-1,ae:=34})∨(x.ae=33∧(1<x.k)∧y={x with k:=x.k-1})∨(x.ae=33∧(x.k=1)∧y={x with k:=x.k-1,ae:=34})):lH x y∧Loc C y∧∀c,aL y c↔aL x c∧x.aq[(x.k-1).toNat]?≠some c:=by
 rcases h with⟨hp,jg,hy⟩|⟨hp,jg,hc,hy⟩|⟨hp,jg,hc,ha,hy⟩|⟨hp,jg,hy⟩|⟨hp,jg,hy⟩
 all_goals
  have e:aP y=aP x:=by subst hy;rfl
  obtain⟨s1,s2,s3⟩:=L.oW hk (by omega) (by omega) (by omega) (by omega);have cP:=s1.Ei;have ja:=s1.ne;have fX:=s1.BD;have hpos:0<x.aq.length:=pd cP;have nT:0<x.aH.length:=pd ja;have kE:=s2.2.1 (by omega)
  have nL:gU C y∧Ej y∧nm y:=by
   subst hy;refine⟨s1.mk' rfl rfl rfl,?_,?_⟩
   ·refine⟨fun h=>?_,fun h=>?_,fun h=>?_⟩<;>simp only[hp]at h ⊢<;>omega
   ·obtain⟨a1,a2,a3,a4,a5,a6,a7⟩:=s3;clear fX cP ja s1 s2 L;constructor<;>simp only[hp,e]at*<;>grind
  have dJ:∀c,aL y c↔aL x c∧x.aq[(x.k-1).toNat]?≠some c:=by
   intro c;unfold aL;rw[e,aF hk,aF hk];have e1:bC x=(x.k-1).toNat+1:=(by simp[bC,hp];omega);have e2:bC y=(x.k-1).toNat:=by subst hy;simp[bC,hp];try omega
   have pJ:y.aq=x.aq:=(by subst hy;rfl);have dD:(x.k-1).toNat<x.aq.length:=(by omega);rw[e1,e2,pJ,qj dD];constructor
   ·intro h;exact⟨.inl h,fun h2=>OD fX h2 h⟩
   ·rintro⟨h|h,h2⟩
    ·exact h
    ·exact aX h h2
  try have oF:x.res.aJ≠1:=fun h=>ha (s3.none_ (by omega))
  have iw:cV (aP x) C y↔cV (aP x) C x:=by subst hy;exact Iff.rfl
  subst hy;obtain⟨l1,l2,l3,l4,l5,l6,l7,l8,l9,kN,kO,kP,kQ,kR,mT,mU,kS,mV,kT,kY,mW,kU,kV,kW⟩:=L;clear l8 fX;refine⟨?_,?_,dJ⟩
  ·clear l1 l2 l3 l4 l5 l6 l7 l9 kN kO kP kQ kR kS kT kY kU kV kW nL dJ s1 s3;constructor<;>simp only[e,hp,aW,aT,bm,eV]at*<;>grind
  ·clear dJ s1 s3 s2;constructor<;>simp only[e,hp,aW,aT,bm,bG]at*<;>grind
theorem M.an5(L:Loc C x)(hk:(aP x).ai=9)(hp:x.ae=30)(jg:1<x.k):lH x {x with k:=x.k-1}∧Loc C {x with k:=x.k-1}∧∀c,aL {x with k:=x.k-1} c↔aL x c∧x.aq[(x.k-1).toNat]?≠some c:=M.gR L hk (.inl ⟨hp,jg,rfl⟩)
theorem M.an6(L:Loc C x)(hk:(aP x).ai=9)(hp:x.ae=30)(jg:x.k=1)(hc:x.res.aJ=0):lH x {x with k:=x.k-1,ae:=13}∧Loc C {x with k:=x.k-1,ae:=13}∧∀c,aL {x with k:=x.k-1,ae:=13} c↔aL x c∧x.aq[(x.k-1).toNat]?≠some c:=M.gR L hk (.inr (.inl ⟨hp,jg,hc,rfl⟩))
theorem M.an7(L:Loc C x)(hk:(aP x).ai=9)(hp:x.ae=30)(jg:x.k=1)(hc:x.res.aJ≠0)(ha:x.bA≠[]):lH x {x with k:=x.k-1,ae:=34}∧Loc C {x with k:=x.k-1,ae:=34}∧∀c,aL {x with k:=x.k-1,ae:=34} c↔aL x c∧x.aq[(x.k-1).toNat]?≠some c:=M.gR L hk (.inr (.inr (.inl ⟨hp,jg,hc,ha,rfl⟩)))
theorem M.an8(L:Loc C x)(hk:(aP x).ai=9)(hp:x.ae=33)(jg:1<x.k):lH x {x with k:=x.k-1}∧Loc C {x with k:=x.k-1}∧∀c,aL {x with k:=x.k-1} c↔aL x c∧x.aq[(x.k-1).toNat]?≠some c:=M.gR L hk (.inr (.inr (.inr (.inl ⟨hp,jg,rfl⟩))))
theorem M.an9(L:Loc C x)(hk:(aP x).ai=9)(hp:x.ae=33)(jg:x.k=1):lH x {x with k:=x.k-1,ae:=34}∧Loc C {x with k:=x.k-1,ae:=34}∧∀c,aL {x with k:=x.k-1,ae:=34} c↔aL x c∧x.aq[(x.k-1).toNat]?≠some c:=M.gR L hk (.inr (.inr (.inr (.inr ⟨hp,jg,rfl⟩))))
theorem M.gQ(L:Loc C x)(hk:(aP x).ai=9){y:bI}(h:(x.ae=30∧(x.k=1)∧(x.res.aJ≠0)∧(∀s∈x.bA,s= -1)∧(x.wakes≠[])∧y={x with k:=x.k-1,ae:=17})∨(x.ae=30∧(x.k=1)∧(x.res.aJ≠0)∧(∀s∈x.bA,s= -1)∧(x.wakes=[])∧y={x with k:=x.k-1,ae:=18})):lH x y∧Loc C y∧∀c,aL y c↔aL x c∧x.aq[(x.k-1).toNat]?≠some c:=by
 rcases h with⟨hp,jg,hc,ha,hw,hy⟩|⟨hp,jg,hc,ha,hw,hy⟩
 all_goals
  have e:aP y=aP x:=by subst hy;rfl
  obtain⟨s1,s2,s3⟩:=L.oW hk (by omega) (by omega) (by omega) (by omega);have cP:=s1.Ei;have ja:=s1.ne;have fX:=s1.BD;have hpos:0<x.aq.length:=pd cP;have nT:0<x.aH.length:=pd ja;have kE:=s2.2.1 (by omega)
  have dJ:∀c,aL y c↔aL x c∧x.aq[(x.k-1).toNat]?≠some c:=by
   intro c;unfold aL;rw[e,aF hk,aF hk];have e1:bC x=(x.k-1).toNat+1:=(by simp[bC,hp];omega);have e2:bC y=(x.k-1).toNat:=by subst hy;simp[bC,hp];try omega
   have pJ:y.aq=x.aq:=(by subst hy;rfl);have dD:(x.k-1).toNat<x.aq.length:=(by omega);rw[e1,e2,pJ,qj dD];constructor
   ·intro h;exact⟨.inl h,fun h2=>OD fX h2 h⟩
   ·rintro⟨h|h,h2⟩
    ·exact h
    ·exact aX h h2
  have iw:cV (aP x) C y↔cV (aP x) C x:=by subst hy;exact Iff.rfl
  subst hy;obtain⟨l1,l2,l3,l4,l5,l6,l7,l8,l9,kN,kO,kP,kQ,kR,mT,mU,kS,mV,kT,kY,mW,kU,kV,kW⟩:=L;clear l8 fX;refine⟨?_,?_,dJ⟩
  ·clear l1 l2 l3 l4 l5 l6 l7 l9 kN kO kP kQ kR kS kT kY kU kV kW dJ s1 s3;constructor<;>simp only[e,hp,aW,aT,bm,eV]at*<;>grind
  ·clear dJ s1 s3 s2;constructor<;>simp only[e,hp,aW,aT,bm,bG]at*<;>grind
theorem M.ao0(L:Loc C x)(hk:(aP x).ai=9)(hp:x.ae=30)(jg:x.k=1)(hc:x.res.aJ≠0)(ha:∀s∈x.bA,s= -1)(hw:x.wakes≠[]):lH x {x with k:=x.k-1,ae:=17}∧Loc C {x with k:=x.k-1,ae:=17}∧∀c,aL {x with k:=x.k-1,ae:=17} c↔aL x c∧x.aq[(x.k-1).toNat]?≠some c:=M.gQ L hk (.inl ⟨hp,jg,hc,ha,hw,rfl⟩)
theorem M.ao1(L:Loc C x)(hk:(aP x).ai=9)(hp:x.ae=30)(jg:x.k=1)(hc:x.res.aJ≠0)(ha:∀s∈x.bA,s= -1)(hw:x.wakes=[]):lH x {x with k:=x.k-1,ae:=18}∧Loc C {x with k:=x.k-1,ae:=18}∧∀c,aL {x with k:=x.k-1,ae:=18} c↔aL x c∧x.aq[(x.k-1).toNat]?≠some c:=M.gQ L hk (.inr ⟨hp,jg,hc,ha,hw,rfl⟩)
theorem M.p13(L:Loc C x)(hk:(aP x).ai=2∨(aP x).ai=3)(hp:x.ae=13):lH x {x with ae:=14}∧Loc C {x with ae:=14}∧∀c,aL {x with ae:=14} c↔aL x c:=by
 have e:aP {x with ae:=14}=aP x:=rfl;obtain⟨l1,l2,l3,l4,l5,l6,l7,l8,l9,kN,kO,kP,kQ,kR,mT,mU,kS,mV,kT,kY,mW,kU,kV,kW⟩:=L;refine⟨?_,?_,?_⟩
 ·constructor<;>simp only[e,hp,aW,aT,bm,eV]at*<;>grind
 ·constructor<;>simp only[e,hp,aW,aT,bm,bG]at*<;>grind
 ·intro c;simp only[aL,e,cH,bC,hp];try grind
theorem M.Ng(L:Loc C x)(hk:(aP x).ai=2∨(aP x).ai=3)(hp:x.ae=14)(r:nP)(hr:r.case= -1):Loc C {x with res:=r,aN:= -1,ae:=15}∧∀c,aL {x with res:=r,aN:= -1,ae:=15} c↔aL x c:=by
 have e:aP {x with res:=r,aN:= -1,ae:=15}=aP x:=rfl;obtain⟨l1,l2,l3,l4,l5,l6,l7,l8,l9,kN,kO,kP,kQ,kR,mT,mU,kS,mV,kT,kY,mW,kU,kV,kW⟩:=L;refine⟨?_,?_⟩
 ·constructor<;>simp only[e,hp,aW,aT,bm,bG]at*<;>grind
 ·intro c;simp only[aL,e,cH,bC,hp];try grind
theorem M.Ip(L:Loc C x)(hk:(aP x).ai=2∨(aP x).ai=3)(hp:x.ae=15):Loc C {x with bY:= -1,ae:=18}∧∀c,aL {x with bY:= -1,ae:=18} c↔aL x c:=by
 have e:aP {x with bY:= -1,ae:=18}=aP x:=rfl;obtain⟨l1,l2,l3,l4,l5,l6,l7,l8,l9,kN,kO,kP,kQ,kR,mT,mU,kS,mV,kT,kY,mW,kU,kV,kW⟩:=L;refine⟨?_,?_⟩
 ·constructor<;>simp only[e,hp,aW,aT,bm,bG]at*<;>grind
 ·intro c;simp only[aL,e,cH,bC,hp];try grind
theorem M.ao2(L:Loc C x)(hk:2≤(aP x).ai∧(aP x).ai≤6∨(aP x).ai=9)(hp:x.ae=17)(l:List Int)(hl:l≠[]):Loc C {x with wakes:=l,ae:=17}∧∀c,aL {x with wakes:=l,ae:=17} c↔aL x c:=by
 have e:aP {x with wakes:=l,ae:=17}=aP x:=rfl;obtain⟨l1,l2,l3,l4,l5,l6,l7,l8,l9,kN,kO,kP,kQ,kR,mT,mU,kS,mV,kT,kY,mW,kU,kV,kW⟩:=L;have iw:cV (aP x) C {x with wakes:=l,ae:=17}↔cV (aP x) C x:=Iff.rfl;refine⟨?_,?_⟩
 ·constructor<;>simp only[e,hp,aW,aT,bm,bG]at*<;>grind
 ·intro c;simp only[aL,e,cH,bC,hp];try grind
theorem M.ao3(L:Loc C x)(hk:2≤(aP x).ai∧(aP x).ai≤6∨(aP x).ai=9)(hp:x.ae=17):Loc C {x with wakes:=[],ae:=18}∧∀c,aL {x with wakes:=[],ae:=18} c↔aL x c:=by
 have e:aP {x with wakes:=[],ae:=18}=aP x:=rfl;obtain⟨l1,l2,l3,l4,l5,l6,l7,l8,l9,kN,kO,kP,kQ,kR,mT,mU,kS,mV,kT,kY,mW,kU,kV,kW⟩:=L;have iw:cV (aP x) C {x with wakes:=[],ae:=18}↔cV (aP x) C x:=Iff.rfl;refine⟨?_,?_⟩
 ·constructor<;>simp only[e,hp,aW,aT,bm,bG]at*<;>grind
 ·intro c;simp only[aL,e,cH,bC,hp];try grind
theorem M.p6l(L:Loc C x)(hk:2≤(aP x).ai∧(aP x).ai≤5)(hp:x.ae=6)(s:Nat):Loc C {x with br:=s,ae:=7}∧∀c,aL {x with br:=s,ae:=7} c↔aL x c:=by
 have e:aP {x with br:=s,ae:=7}=aP x:=rfl;obtain⟨l1,l2,l3,l4,l5,l6,l7,l8,l9,kN,kO,kP,kQ,kR,mT,mU,kS,mV,kT,kY,mW,kU,kV,kW⟩:=L;refine⟨?_,?_⟩
 ·constructor<;>simp only[e,hp,aW,aT,bm,bG]at*<;>grind
 ·intro c;simp only[aL,e,cH,bC,hp];try grind
theorem M.p6c(L:Loc C x)(hk:2≤(aP x).ai∧(aP x).ai≤5)(hp:x.ae=6)(s:Nat)(t p q:Int):Loc C {x with br:=s,t:=t,point:=p,bF:=q,ae:=8}∧∀c,aL {x with br:=s,t:=t,point:=p,bF:=q,ae:=8} c↔aL x c:=by
 have e:aP {x with br:=s,t:=t,point:=p,bF:=q,ae:=8}=aP x:=rfl;obtain⟨l1,l2,l3,l4,l5,l6,l7,l8,l9,kN,kO,kP,kQ,kR,mT,mU,kS,mV,kT,kY,mW,kU,kV,kW⟩:=L;refine⟨?_,?_⟩
 ·constructor<;>simp only[e,hp,aW,aT,bm,bG]at*<;>grind
 ·intro c;simp only[aL,e,cH,bC,hp];try grind
theorem M.p7l(L:Loc C x)(hk:2≤(aP x).ai∧(aP x).ai≤5)(hp:x.ae=7):Loc C {x with br:= -1,ae:=6}∧∀c,aL {x with br:= -1,ae:=6} c↔aL x c:=by
 have e:aP {x with br:= -1,ae:=6}=aP x:=rfl;obtain⟨l1,l2,l3,l4,l5,l6,l7,l8,l9,kN,kO,kP,kQ,kR,mT,mU,kS,mV,kT,kY,mW,kU,kV,kW⟩:=L;refine⟨?_,?_⟩
 ·constructor<;>simp only[e,hp,aW,aT,bm,bG]at*<;>grind
 ·intro c;simp only[aL,e,cH,bC,hp];try grind
theorem M.p7c(L:Loc C x)(hk:2≤(aP x).ai∧(aP x).ai≤5)(hp:x.ae=7)(t p q:Int):Loc C {x with t:=t,point:=p,bF:=q,ae:=8}∧∀c,aL {x with t:=t,point:=p,bF:=q,ae:=8} c↔aL x c:=by
 have e:aP {x with t:=t,point:=p,bF:=q,ae:=8}=aP x:=rfl;obtain⟨l1,l2,l3,l4,l5,l6,l7,l8,l9,kN,kO,kP,kQ,kR,mT,mU,kS,mV,kT,kY,mW,kU,kV,kW⟩:=L;refine⟨?_,?_⟩
 ·constructor<;>simp only[e,hp,aW,aT,bm,bG]at*<;>grind
 ·intro c;simp only[aL,e,cH,bC,hp];try grind
theorem M.p8(L:Loc C x)(hk:2≤(aP x).ai∧(aP x).ai≤5)(hp:x.ae=8)(r:nP)(hr:r.case= -1):Loc C {x with res:=r,br:= -1,ae:=16}∧∀c,aL {x with res:=r,br:= -1,ae:=16} c↔aL x c:=by
 have e:aP {x with res:=r,br:= -1,ae:=16}=aP x:=rfl;obtain⟨l1,l2,l3,l4,l5,l6,l7,l8,l9,kN,kO,kP,kQ,kR,mT,mU,kS,mV,kT,kY,mW,kU,kV,kW⟩:=L;refine⟨?_,?_⟩
 ·constructor<;>simp only[e,hp,aW,aT,bm,bG]at*<;>grind
 ·intro c;simp only[aL,e,cH,bC,hp];try grind
theorem M.ao4(L:Loc C x)(hk:(aP x).ai=6)(hp:x.ae=22)(s:Nat):Loc C {x with br:=s,ae:=23}∧∀c,aL {x with br:=s,ae:=23} c↔aL x c:=by
 have e:aP {x with br:=s,ae:=23}=aP x:=rfl;obtain⟨l1,l2,l3,l4,l5,l6,l7,l8,l9,kN,kO,kP,kQ,kR,mT,mU,kS,mV,kT,kY,mW,kU,kV,kW⟩:=L;refine⟨?_,?_⟩
 ·constructor<;>simp only[e,hp,aW,aT,bm,bG]at*<;>grind
 ·intro c;simp only[aL,e,cH,bC,hp];try grind
theorem M.ao5(L:Loc C x)(hk:(aP x).ai=6)(hp:x.ae=22)(t:Int):Loc C {x with br:= -1,t:=t,ae:=22}∧∀c,aL {x with br:= -1,t:=t,ae:=22} c↔aL x c:=by
 have e:aP {x with br:= -1,t:=t,ae:=22}=aP x:=rfl;obtain⟨l1,l2,l3,l4,l5,l6,l7,l8,l9,kN,kO,kP,kQ,kR,mT,mU,kS,mV,kT,kY,mW,kU,kV,kW⟩:=L;refine⟨?_,?_⟩
 ·constructor<;>simp only[e,hp,aW,aT,bm,bG]at*<;>grind
 ·intro c;simp only[aL,e,cH,bC,hp];try grind
theorem M.ao6(L:Loc C x)(hk:(aP x).ai=6)(hp:x.ae=23):Loc C {x with br:= -1,ae:=22}∧∀c,aL {x with br:= -1,ae:=22} c↔aL x c:=by
 have e:aP {x with br:= -1,ae:=22}=aP x:=rfl;obtain⟨l1,l2,l3,l4,l5,l6,l7,l8,l9,kN,kO,kP,kQ,kR,mT,mU,kS,mV,kT,kY,mW,kU,kV,kW⟩:=L;refine⟨?_,?_⟩
 ·constructor<;>simp only[e,hp,aW,aT,bm,bG]at*<;>grind
 ·intro c;simp only[aL,e,cH,bC,hp];try grind
theorem M.ao7(L:Loc C x)(hk:(aP x).ai=6)(hp:x.ae=23)(t:Int):Loc C {x with br:= -1,t:=t,ae:=22}∧∀c,aL {x with br:= -1,t:=t,ae:=22} c↔aL x c:=by
 have e:aP {x with br:= -1,t:=t,ae:=22}=aP x:=rfl;obtain⟨l1,l2,l3,l4,l5,l6,l7,l8,l9,kN,kO,kP,kQ,kR,mT,mU,kS,mV,kT,kY,mW,kU,kV,kW⟩:=L;refine⟨?_,?_⟩
 ·constructor<;>simp only[e,hp,aW,aT,bm,bG]at*<;>grind
 ·intro c;simp only[aL,e,cH,bC,hp];try grind
theorem M.p10(L:Loc C x)(hk:(aP x).ai=2∨(aP x).ai=3)(hp:x.ae=10)(s:Nat):Loc C {x with bY:=s,ae:=11}∧∀c,aL {x with bY:=s,ae:=11} c↔aL x c:=by
 have e:aP {x with bY:=s,ae:=11}=aP x:=rfl;obtain⟨l1,l2,l3,l4,l5,l6,l7,l8,l9,kN,kO,kP,kQ,kR,mT,mU,kS,mV,kT,kY,mW,kU,kV,kW⟩:=L;refine⟨?_,?_⟩
 ·constructor<;>simp only[e,hp,aW,aT,bm,bG]at*<;>grind
 ·intro c;simp only[aL,e,cH,bC,hp];try grind
theorem M.p11(L:Loc C x)(hk:(aP x).ai=2∨(aP x).ai=3)(hp:x.ae=11)(t:Int):Loc C {x with bJ:=t,ae:=12}∧∀c,aL {x with bJ:=t,ae:=12} c↔aL x c:=by
 have e:aP {x with bJ:=t,ae:=12}=aP x:=rfl;obtain⟨l1,l2,l3,l4,l5,l6,l7,l8,l9,kN,kO,kP,kQ,kR,mT,mU,kS,mV,kT,kY,mW,kU,kV,kW⟩:=L;refine⟨?_,?_⟩
 ·constructor<;>simp only[e,hp,aW,aT,bm,bG]at*<;>grind
 ·intro c;simp only[aL,e,cH,bC,hp];try grind
end
end Go.Proofs.YtadifmnmfnihdaaGreat.V
