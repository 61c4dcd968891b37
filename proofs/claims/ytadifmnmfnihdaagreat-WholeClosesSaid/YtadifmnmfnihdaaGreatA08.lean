import Derived.Test.YtadifmnmfnihdaaGreatA07
set_option linter.all false
set_option maxRecDepth 100000
set_option maxHeartbeats 40000000
namespace Go.Proofs.YtadifmnmfnihdaaGreat
open Mach
namespace V
structure bK(w w':Wd):Prop where
 ops:w'.gs.map (·.ops)=w.gs.map (·.ops)
 av:w'.av=w.av
 list:w'.list=w.list
 drawn:w'.drawn=w.drawn
 done:w'.done=w.done
 au:w'.au.length=w.au.length
theorem dW{gs:List bI}{g:Nat}{x x':bI}(hx:gs[g]?=some x)(h:x'.ops=x.ops):(gs.set g x').map (·.ops)=gs.map (·.ops):=by
 rw[List.map_set,h];apply List.ext_getElem?;intro i;rw[sW];split
 ·rename_i e;subst e;have:g<gs.length:=cA hx;rw[fv this,oZ]at hx;simp[this,hx]
 ·rfl
theorem bK.refl(w:Wd):bK w w:=⟨rfl,rfl,rfl,rfl,rfl,rfl⟩
theorem bK.trans{a b c:Wd}(h:bK a b)(k:bK b c):bK a c:=⟨k.ops.trans h.ops,k.av.trans h.av,k.list.trans h.list,k.drawn.trans h.drawn,k.done.trans h.done,k.au.trans h.au⟩
section
variable{r:Ring}(h:r.Ok)
include h
theorem Ring.C2(v:Int):(r.put v).1.Ok:=by
 obtain⟨h1,h2,h3,h4,h5⟩:=h;unfold Ring.put Ring.full;split
 ·exact⟨h1,h2,h3,h4,h5⟩
 ·rename_i e;simp only[decide_eq_true_eq]at e;constructor<;>simp<;>omega
theorem UN(h0:r.places≠[])(i:Int):(r.at_ i:Int)<r.places.length:=by
 have:0<r.places.length:=pd h0;unfold Ring.at_;have h1:=Int.emod_nonneg (r.first+i) (b:=(r.places.length:Int)) oX;have h2:=Int.emod_lt_of_pos (r.first+i) (b:=(r.places.length:Int)) oX;omega
theorem Ring.C3:r.get.1.Ok:=by
 unfold Ring.get;exact aZ3
theorem Ring.Kg(v:Int):(r.pass v).1.Ok:=by
 unfold Ring.pass;exact aZ3
end
def Na(w:Wd)(g:Nat):Prop:=∃t,w.ax[g]?=some (0,t)
theorem SF{w:Wd}{g:Nat}(h:bU w.ax g=0)(hg:g<w.ax.length):Na w g:=by
 obtain⟨⟨s,t⟩,hb⟩:∃p,w.ax[g]?=some p:=⟨_,fv hg⟩;unfold bU idx at h;simp[hb]at h;subst h;exact⟨t,hb⟩
section
variable{w w':Wd}{ls:List (List Nat)}{g:Nat}{x x':bI}
section
variable(I:Inv w ls)(hx:w.gs[g]?=some x)(hs:Na w g)(M:lH x x')(p:(x'.ae=14→x.ae=14)∧x'.ae≠19)(hL:Loc w.au.length x')(hh:∀c,aL x' c↔aL x c)(ho:x'.ops=x.ops)
include I hx hs M p hL hh ho
theorem Inv.ku:Inv (w.ay g x') ls∧bK w (w.ay g x'):=
 ⟨I.frame hx hs M p.1 p.2 hL rfl rfl rfl I.au rfl rfl (I.lock.same hx hh) rfl rfl rfl,dW hx ho,rfl,rfl,rfl,rfl,rfl⟩
theorem Inv.LN{c:Nat}{r:Ring}(hr:r.Ok):Inv ((w.dZ c r).ay g x') ls∧bK w ((w.dZ c r).ay g x'):=
 ⟨I.frame hx hs M p.1 p.2 hL rfl rfl (by simp[Wd.dZ,Wd.ay]) (fun r' h'=>by
   simp only[Wd.dZ,Wd.ay]at h';rcases List.mem_or_eq_of_mem_set h' with h|h
   ·exact I.au r' h
   ·rw[h];exact hr) rfl rfl (I.lock.same hx hh) rfl rfl rfl,dW hx ho,rfl,rfl,rfl,rfl,by simp[Wd.dZ,Wd.ay]⟩
end
theorem Inv.same(I:Inv w ls)(e1:w'.gs=w.gs)(e2:w'.ax=w.ax)(e3:w'.au=w.au)(e5:w'.aO.length=w.aO.length)(e6:w'.aq=w.aq)(e8:w'.ah=w.ah)(e9:w'.aw=w.aw)(Lj:w'.Eg=w.Eg):Inv w' ls:=by
 cases w;cases w';simp only at*;subst e1 e2 e3 e6 e8 e9 Lj;exact⟨I.n8,I.ax,I.c8,e5.trans I.aO,I.aq,I.au,I.JZ,I.aS,I.bM,I.Eg,I.q,I.loc,I.lock,I.cK,I.bY,I.bA,I.EJ,I.look,I.claim,I.pE,I.served,I.st,I.jn,I.pg,I.rf⟩
theorem gz(I:Inv w ls){ch:Int}(h:1≤ch∧ch≤w.au.length):cZ w ch=true∧∃r,kq w ch=some ((ch-1).toNat,r)∧r.Ok:=by
 obtain⟨r,hr⟩:∃r,w.au[(ch-1).toNat]?=some r:=⟨_,fv oX⟩;refine⟨by unfold cZ;simp;omega,r,?_,I.au r (lf hr)⟩;unfold kq nat?;rw[aF oX];simp only[bW,eN,hr]
theorem pj(I:Inv w ls)(hx:w.gs[g]?=some x)(h0:x.ae≠0):mf w g=some (aP x)∧Vz (aP x):=by
 have L:=I.loc g x hx;have hm:aP x∈x.ops:=by have h1:=L.Uy h0;have h2:=L.JY.1;unfold aP idx;rw[aF h2];obtain⟨o,ho⟩:∃o,x.ops[x.at_.toNat]?=some o:=⟨_,fv oX⟩;rw[ho];exact lf ho
 have hR:=L.ops _ hm;refine⟨?_,hR⟩;unfold mf;rw[qd hx];have:=hR.ch;have:=hR.cl;rw[aF ⟨bl3,oX⟩]
theorem oM(h1:x'.ops=x.ops)(h2:x'.at_=x.at_):aP x'=aP x:=by unfold aP;rw[h1,h2]
variable{C:Nat}
section
variable(L:Loc C x)(hk:(aP x).ai=4∨(aP x).ai=5)(hp:x.ae=1)
include L hk hp
theorem M.s1a:lH x {x with ae:=4}∧Loc C {x with ae:=4}∧∀c,aL {x with ae:=4} c↔aL x c:=by
 have e:aP {x with ae:=4}=aP x:=rfl;exact ah9
theorem M.s1b(p:Int):lH x {x with point:=p,ae:=2}∧Loc C {x with point:=p,ae:=2}∧∀c,aL {x with point:=p,ae:=2} c↔aL x c:=by
 have e:aP {x with point:=p,ae:=2}=aP x:=rfl;exact ah9
end
theorem M.s2a(L:Loc C x)(hk:(aP x).ai=4)(hp:x.ae=2):lH x {x with point:=0,ae:=4}∧Loc C {x with point:=0,ae:=4}∧∀c,aL {x with point:=0,ae:=4} c↔aL x c:=by
 have e:aP {x with point:=0,ae:=4}=aP x:=rfl;exact ah9
theorem M.s2b(L:Loc C x)(hk:(aP x).ai=4∨(aP x).ai=5)(hp:x.ae=2):lH x {x with res:={x.res with aJ:=2},ae:=18}∧Loc C {x with res:={x.res with aJ:=2},ae:=18}∧∀c,aL {x with res:={x.res with aJ:=2},ae:=18} c↔aL x c:=by
 have e:aP {x with res:={x.res with aJ:=2},ae:=18}=aP x:=rfl;exact ah9
section
variable(L:Loc C x)(hk:(aP x).ai=5)
include L hk
theorem M.r2a(hp:x.ae=2):lH x {x with ae:=3}∧Loc C {x with ae:=3}∧∀c,aL {x with ae:=3} c↔aL x c:=by
 have e:aP {x with ae:=3}=aP x:=rfl;exact ah9
theorem M.r3a(hp:x.ae=3):lH x {x with point:=0,ae:=4}∧Loc C {x with point:=0,ae:=4}∧∀c,aL {x with point:=0,ae:=4} c↔aL x c:=by
 have e:aP {x with point:=0,ae:=4}=aP x:=rfl;exact ah9
theorem M.r3b(hp:x.ae=3)(p:Int):lH x {x with res:={aJ:=1,case:= -1},point:=p,ae:=18}∧Loc C {x with res:={aJ:=1,case:= -1},point:=p,ae:=18}∧∀c,aL {x with res:={aJ:=1,case:= -1},point:=p,ae:=18} c↔aL x c:=by
 have e:aP {x with res:={aJ:=1,case:= -1},point:=p,ae:=18}=aP x:=rfl;exact ah9
end
section
variable(L:Loc C x)(hk:2≤(aP x).ai∧(aP x).ai≤5)
include L hk
theorem M.s5a(hp:x.ae=5)(p:Int)(r:nP)(hr:r.case= -1):lH x {x with res:=r,point:=p,ae:=16}∧Loc C {x with res:=r,point:=p,ae:=16}∧∀c,aL {x with res:=r,point:=p,ae:=16} c↔aL x c:=by
 have e:aP {x with res:=r,point:=p,ae:=16}=aP x:=rfl;exact ah9
theorem M.s5b(hp:x.ae=5):lH x {x with ae:=6}∧Loc C {x with ae:=6}∧∀c,aL {x with ae:=6} c↔aL x c:=by
 have e:aP {x with ae:=6}=aP x:=rfl;exact ah9
theorem M.s5c(hp:x.ae=5):lH x {x with ae:=9}∧Loc C {x with ae:=9}∧∀c,aL {x with ae:=9} c↔aL x c:=by
 have e:aP {x with ae:=9}=aP x:=rfl;exact ah9
theorem M.s6(hp:x.ae=6):lH x {x with ae:=9}∧Loc C {x with ae:=9}∧∀c,aL {x with ae:=9} c↔aL x c:=by
 have e:aP {x with ae:=9}=aP x:=rfl;exact ah9
theorem M.s9a(hp:x.ae=9)(p:Int)(r:nP)(hr:r.case= -1):lH x {x with res:=r,point:=p,ae:=16}∧Loc C {x with res:=r,point:=p,ae:=16}∧∀c,aL {x with res:=r,point:=p,ae:=16} c↔aL x c:=by
 have e:aP {x with res:=r,point:=p,ae:=16}=aP x:=rfl;exact ah9
end
section
variable(L:Loc C x)(hk:(aP x).ai=2∨(aP x).ai=3)
include L hk
theorem M.s9b(hp:x.ae=9):lH x {x with ae:=10}∧Loc C {x with ae:=10}∧∀c,aL {x with ae:=10} c↔aL x c:=by
 have e:aP {x with ae:=10}=aP x:=rfl;exact ah9
theorem M.V1(hp:x.ae=10):lH x {x with res:={x.res with aJ:=6},ae:=16}∧Loc C {x with res:={x.res with aJ:=6},ae:=16}∧∀c,aL {x with res:={x.res with aJ:=6},ae:=16} c↔aL x c:=by
 have e:aP {x with res:={x.res with aJ:=6},ae:=16}=aP x:=rfl;exact ah9
end
section
variable(L:Loc C x)(hk:(aP x).ai=6)(hp:x.ae=21)(p:Int)(r:nP)(hr:r.case= -1)
include L hk hp p r hr
theorem M.am1:lH x {x with point:=p,res:=r,ae:=16}∧Loc C {x with point:=p,res:=r,ae:=16}∧∀c,aL {x with point:=p,res:=r,ae:=16} c↔aL x c:=by
 have e:aP {x with point:=p,res:=r,ae:=16}=aP x:=rfl;exact ah9
theorem M.am2:lH x {x with point:=p,res:=r,ae:=22}∧Loc C {x with point:=p,res:=r,ae:=22}∧∀c,aL {x with point:=p,res:=r,ae:=22} c↔aL x c:=by
 have e:aP {x with point:=p,res:=r,ae:=22}=aP x:=rfl;exact ah9
end
theorem M.h22(L:Loc C x)(hk:(aP x).ai=6)(hp:x.ae=22):lH x {x with ae:=16}∧Loc C {x with ae:=16}∧∀c,aL {x with ae:=16} c↔aL x c:=by
 have e:aP {x with ae:=16}=aP x:=rfl;exact ah9
theorem M.o20(L:Loc C x)(hk:(aP x).ai≠9)(hp:x.ae=20)(p:Int)(r:nP)(hr:r.case= -1):lH x {x with res:=r,point:=p,ae:=18}∧Loc C {x with res:=r,point:=p,ae:=18}∧∀c,aL {x with res:=r,point:=p,ae:=18} c↔aL x c:=by
 have e:aP {x with res:=r,point:=p,ae:=18}=aP x:=rfl;exact ah9
end
section
variable{w w':Wd}{ls:List (List Nat)}{g:Nat}{x x':bI}{C:Nat}
theorem gU.mk'(h:gU C x)(h1:aP x'=aP x)(h2:x'.aH=x.aH)(h3:x'.aq=x.aq):gU C x':=by
 obtain⟨a1,a2,a3,a4,a5,a6,a7⟩:=h;exact⟨by rw[h2];exact a1,by rw[h1,h2,h3];exact a2,by rw[h2];exact a3,by rw[h2];exact a4,by rw[h3];exact a5,by rw[h3];exact a6,by rw[h3];exact a7⟩
theorem qj{l:List Int}{k:Nat}{c:Int}(h:k<l.length):c∈l.take (k+1)↔c∈l.take k∨l[k]?=some c:=by
 rw[List.take_succ,fv h];simp only[Option.toList_some,List.mem_append,List.mem_singleton,oZ];exact or_congr Iff.rfl ⟨fun h=>h.symm,fun h=>h.symm⟩
theorem OD{l:List Int}(ha:l.Pairwise (· <·)){k:Nat}{c:Int}(h:l[k]?=some c):c ∉ l.take k:=by
 intro hm;obtain⟨j,hj,e⟩:=List.getElem_of_mem hm;rw[tC]at hj;obtain⟨hk,e2⟩:=uC h;rw[List.getElem_take]at e;have:=List.pairwise_iff_getElem.1 ha j k oX hk oX;omega
section
variable(L:Loc C x)(hk:(aP x).ai=9)
include L hk
theorem M.V2(hp:x.ae=13):lH x {x with ae:=14}∧Loc C {x with ae:=14}∧∀c,aL {x with ae:=14} c↔aL x c:=by
 have e:aP {x with ae:=14}=aP x:=rfl;obtain⟨s1,s2,s3⟩:=L.oW hk oX oX oX oX;have cP:=s1.Ei;have ja:=s1.ne;have fX:=s1.BD;have hpos:0<x.aq.length:=pd cP;have nT:0<x.aH.length:=pd ja
 have nL:gU C {x with ae:=14}∧Ej {x with ae:=14}∧nm {x with ae:=14}:=by
  exact az2
 have dJ:∀c,aL {x with ae:=14} c↔aL x c:=by
  intro c;unfold aL;rw[e,aF hk,aF hk];have e1:bC x=0:=bk3
  have e2:bC {x with ae:=14}=0:=bk3
  rw[e1,e2]
 have iw:cV (aP x) C {x with ae:=14}↔cV (aP x) C x:=Iff.rfl;exact bv1
theorem M.c14(hp:x.ae=14)(hq:0≤x.aN)(r:nP)(hr:r.aJ≠0)(C5:cV (aP x) C {x with res:=r}):Loc C {x with res:=r,aN:= -1,k:=0,ae:=31}∧∀c,aL {x with res:=r,aN:= -1,k:=0,ae:=31} c↔aL x c:=by
 have e:aP {x with res:=r,aN:= -1,k:=0,ae:=31}=aP x:=rfl;obtain⟨s1,s2,s3⟩:=L.oW hk oX oX oX oX;have cP:=s1.Ei;have ja:=s1.ne;have fX:=s1.BD;have hpos:0<x.aq.length:=pd cP;have nT:0<x.aH.length:=pd ja
 have nL:gU C {x with res:=r,aN:= -1,k:=0,ae:=31}∧Ej {x with res:=r,aN:= -1,k:=0,ae:=31}∧nm {x with res:=r,aN:= -1,k:=0,ae:=31}:=by
  exact az2
 have dJ:∀c,aL {x with res:=r,aN:= -1,k:=0,ae:=31} c↔aL x c:=by
  intro c;unfold aL;rw[e,aF hk,aF hk];have e1:bC x=0:=bk3
  have e2:bC {x with res:=r,aN:= -1,k:=0,ae:=31}=0:=bk3
  rw[e1,e2]
 have iw:cV (aP x) C {x with res:=r,aN:= -1,k:=0,ae:=31}:=C5;exact bh5
theorem M.gA{y:bI}(h:(x.ae=24∧(x.k+1<x.aq.length)∧y={x with k:=x.k+1})∨(x.ae=24∧(x.k+1=x.aq.length)∧y={x with k:=0,ae:=25})∨(x.ae=31∧(x.k+1<x.aq.length)∧y={x with k:=x.k+1})∨(x.ae=31∧(x.k+1=x.aq.length)∧y={x with k:=0,ae:=32})):lH x y∧Loc C y∧∀c,aL y c↔aL x c∨x.aq[x.k.toNat]?=some c:=by
 rcases h with⟨hp,jg,hy⟩|⟨hp,jg,hy⟩|⟨hp,jg,hy⟩|⟨hp,jg,hy⟩
 all_goals
  have e:aP y=aP x:=bp8
  obtain⟨s1,s2,s3⟩:=L.oW hk oX oX oX oX;have cP:=s1.Ei;have ja:=s1.ne;have fX:=s1.BD;have hpos:0<x.aq.length:=pd cP;have nT:0<x.aH.length:=pd ja;have kE:=s2.1 oX
  have nL:gU C y∧Ej y∧nm y:=by
   subst hy;exact az2
  have dJ:∀c,aL y c↔aL x c∨x.aq[x.k.toNat]?=some c:=by intro c;unfold aL;rw[e,aF hk,aF hk];have e1:bC x=x.k.toNat:=bk3;have e2:bC y=x.k.toNat+1:=(by subst hy;simp[bC,hp];omega);rw[e1,e2];have pJ:y.aq=x.aq:=bp8;rw[pJ];have dD:x.k.toNat<x.aq.length:=oX;exact qj dD
  have iw:cV (aP x) C y↔cV (aP x) C x:=bp7
  subst hy;obtain⟨l1,l2,l3,l4,l5,l6,l7,l8,l9,kN,kO,kP,kQ,kR,mT,mU,kS,mV,kT,kY,mW,kU,kV,kW⟩:=L;clear l8 fX;refine⟨?_,?_,dJ⟩
  ·exact bh6
  ·exact bh7
theorem M.am3(hp:x.ae=24)(jg:x.k+1<x.aq.length):lH x {x with k:=x.k+1}∧Loc C {x with k:=x.k+1}∧∀c,aL {x with k:=x.k+1} c↔aL x c∨x.aq[x.k.toNat]?=some c:=M.gA L hk (.inl ⟨hp,jg,rfl⟩)
theorem M.am4(hp:x.ae=24)(jg:x.k+1=x.aq.length):lH x {x with k:=0,ae:=25}∧Loc C {x with k:=0,ae:=25}∧∀c,aL {x with k:=0,ae:=25} c↔aL x c∨x.aq[x.k.toNat]?=some c:=M.gA L hk (.inr (.inl ⟨hp,jg,rfl⟩))
theorem M.am5(hp:x.ae=31)(jg:x.k+1<x.aq.length):lH x {x with k:=x.k+1}∧Loc C {x with k:=x.k+1}∧∀c,aL {x with k:=x.k+1} c↔aL x c∨x.aq[x.k.toNat]?=some c:=M.gA L hk (.inr (.inr (.inl ⟨hp,jg,rfl⟩)))
theorem M.am6(hp:x.ae=31)(jg:x.k+1=x.aq.length):lH x {x with k:=0,ae:=32}∧Loc C {x with k:=0,ae:=32}∧∀c,aL {x with k:=0,ae:=32} c↔aL x c∨x.aq[x.k.toNat]?=some c:=M.gA L hk (.inr (.inr (.inr ⟨hp,jg,rfl⟩)))
theorem M.gS{y:bI}(h:(x.ae=25∧(x.k+1<x.aH.length)∧y={x with k:=x.k+1})∨(x.ae=25∧∃(r:nP) (p:Int),(r.aJ=1∨r.aJ=2∨r.aJ=3)∧(cV (aP x) C {x with res:=r,point:=p,fire:=r.case})∧y={x with res:=r,point:=p,fire:=r.case,k:=x.aq.length,ae:=30})∨(x.ae=26∧y={x with br:= -1,ae:=25})∨(x.ae=27∧∃(r:nP),(r.aJ=1)∧(cV (aP x) C {x with res:=r})∧y={x with res:=r,br:= -1,k:=x.aq.length,ae:=30})):lH x y∧Loc C y∧∀c,aL y c↔aL x c:=by
 rcases h with⟨hp,jg,hy⟩|⟨hp,r,p,hr,C5,hy⟩|⟨hp,hy⟩|⟨hp,r,hr,C5,hy⟩
 all_goals
  have e:aP y=aP x:=bp8
  obtain⟨s1,s2,s3⟩:=L.oW hk oX oX oX oX;have cP:=s1.Ei;have ja:=s1.ne;have fX:=s1.BD;have hpos:0<x.aq.length:=pd cP;have nT:0<x.aH.length:=pd ja;have kE:=s2.2.2 oX
  have nL:gU C y∧Ej y∧nm y:=by
   subst hy;exact az2
  have dJ:∀c,aL y c↔aL x c:=bv8
  first|(have iw:cV (aP x) C y:=by subst hy;exact C5)|(have iw:cV (aP x) C y↔cV (aP x) C x:=bp7)
  subst hy;obtain⟨l1,l2,l3,l4,l5,l6,l7,l8,l9,kN,kO,kP,kQ,kR,mT,mU,kS,mV,kT,kY,mW,kU,kV,kW⟩:=L;clear l8 fX;refine⟨?_,?_,dJ⟩
  ·exact bh6
  ·exact bh7
theorem M.am7(hp:x.ae=25)(jg:x.k+1<x.aH.length):lH x {x with k:=x.k+1}∧Loc C {x with k:=x.k+1}∧∀c,aL {x with k:=x.k+1} c↔aL x c:=M.gS L hk (.inl ⟨hp,jg,rfl⟩)
theorem M.am8(hp:x.ae=25)(r:nP)(p:Int)(hr:r.aJ=1∨r.aJ=2∨r.aJ=3)(C5:cV (aP x) C {x with res:=r,point:=p,fire:=r.case}):lH x {x with res:=r,point:=p,fire:=r.case,k:=x.aq.length,ae:=30}∧Loc C {x with res:=r,point:=p,fire:=r.case,k:=x.aq.length,ae:=30}∧∀c,aL {x with res:=r,point:=p,fire:=r.case,k:=x.aq.length,ae:=30} c↔aL x c:=M.gS L hk (.inr (.inl ⟨hp,r,p,hr,C5,rfl⟩))
theorem M.am9(hp:x.ae=26):lH x {x with br:= -1,ae:=25}∧Loc C {x with br:= -1,ae:=25}∧∀c,aL {x with br:= -1,ae:=25} c↔aL x c:=M.gS L hk (.inr (.inr (.inl ⟨hp,rfl⟩)))
theorem M.c27(hp:x.ae=27)(r:nP)(hr:r.aJ=1)(C5:cV (aP x) C {x with res:=r}):lH x {x with res:=r,br:= -1,k:=x.aq.length,ae:=30}∧Loc C {x with res:=r,br:= -1,k:=x.aq.length,ae:=30}∧∀c,aL {x with res:=r,br:= -1,k:=x.aq.length,ae:=30} c↔aL x c:=M.gS L hk (.inr (.inr (.inr ⟨hp,r,hr,C5,rfl⟩)))
theorem M.an0(hp:x.ae=25)(he:(aP x).dG=false):Loc C {x with bA:=List.replicate (aP x).cases.length (-1),k:=0,ae:=28}∧∀c,aL {x with bA:=List.replicate (aP x).cases.length (-1),k:=0,ae:=28} c↔aL x c:=by
 have e:aP {x with bA:=List.replicate (aP x).cases.length (-1),k:=0,ae:=28}=aP x:=rfl;obtain⟨s1,s2,s3⟩:=L.oW hk oX oX oX oX;have cP:=s1.Ei;have ja:=s1.ne;have fX:=s1.BD;have hpos:0<x.aq.length:=pd cP;have nT:0<x.aH.length:=pd ja;have kE:=s2.2.2 oX
 have nL:gU C {x with bA:=List.replicate (aP x).cases.length (-1),k:=0,ae:=28}∧Ej {x with bA:=List.replicate (aP x).cases.length (-1),k:=0,ae:=28}∧nm {x with bA:=List.replicate (aP x).cases.length (-1),k:=0,ae:=28}:=by
  refine⟨s1.mk' rfl rfl rfl,?_,?_⟩
  ·exact aW3
  ·refine⟨fun h=>bj5,fun _=>(by simp only[vE];rw[e]),fun i s hs cM=>?_,fun h=>bj5,fun h=>bj5,fun _ j i hj ho=>?_,fun _ j i hj ho=>(by simp only at hj;omega)⟩
   ·simp only[uA]at hs;split at hs
    ·cases hs;exact aX rfl cM
    ·cases hs
   ·obtain⟨h0,c,hc,_⟩:=s1.ord i (lf ho);have:=cA hc;simp only[uA];rw[aF this]
 have dJ:∀c,aL {x with bA:=List.replicate (aP x).cases.length (-1),k:=0,ae:=28} c↔aL x c:=by
  intro c;unfold aL;rw[e,aF hk,aF hk];have e1:bC x=x.aq.length:=bk3
  have e2:bC {x with bA:=List.replicate (aP x).cases.length (-1),k:=0,ae:=28}=x.aq.length:=bk3
  rw[e1,e2]
 exact bh5
theorem M.gT{y:bI}(h:(x.ae=25∧∃(s:Nat),y={x with br:=s,ae:=26})∨(x.ae=25∧∃(s:Nat) (t p q:Int) (f:Int),(∃j:Nat,x.k=j∧x.aH[j]?=some f)∧y={x with br:=s,t:=t,point:=p,bF:=q,fire:=f,ae:=27})∨(x.ae=26∧∃(t p q:Int) (f:Int),(∃j:Nat,x.k=j∧x.aH[j]?=some f)∧y={x with t:=t,point:=p,bF:=q,fire:=f,ae:=27})∨(x.ae=28∧y={x with res:={x.res with aJ:=6},k:=x.aq.length,ae:=30})):Loc C y∧∀c,aL y c↔aL x c:=by
 rcases h with⟨hp,s,hy⟩|⟨hp,s,t,p,q,f,hf,hy⟩|⟨hp,t,p,q,f,hf,hy⟩|⟨hp,hy⟩
 all_goals
  have e:aP y=aP x:=bp8
  obtain⟨s1,s2,s3⟩:=L.oW hk oX oX oX oX;have cP:=s1.Ei;have ja:=s1.ne;have fX:=s1.BD;have hpos:0<x.aq.length:=pd cP;have nT:0<x.aH.length:=pd ja;have kE:=s2.2.2 oX
  have nL:gU C y∧Ej y∧nm y:=by
   subst hy;exact az2
  have dJ:∀c,aL y c↔aL x c:=bv8
  first|(have iw:cV (aP x) C y:=by subst hy;exact .inr (.inr ⟨rfl,L.dG hp,(L.cO hk oX).2.1⟩))|(have iw:cV (aP x) C y↔cV (aP x) C x:=bp7)|(skip)
  subst hy;obtain⟨l1,l2,l3,l4,l5,l6,l7,l8,l9,kN,kO,kP,kQ,kR,mT,mU,kS,mV,kT,kY,mW,kU,kV,kW⟩:=L;clear l8 fX;refine⟨?_,dJ⟩
  ·exact bh7
theorem M.an1(hp:x.ae=25)(s:Nat):Loc C {x with br:=s,ae:=26}∧∀c,aL {x with br:=s,ae:=26} c↔aL x c:=M.gT L hk (.inl ⟨hp,s,rfl⟩)
theorem M.an2(hp:x.ae=25)(s:Nat)(t p q:Int)(f:Int)(hf:∃j:Nat,x.k=j∧x.aH[j]?=some f):Loc C {x with br:=s,t:=t,point:=p,bF:=q,fire:=f,ae:=27}∧∀c,aL {x with br:=s,t:=t,point:=p,bF:=q,fire:=f,ae:=27} c↔aL x c:=M.gT L hk (.inr (.inl ⟨hp,s,t,p,q,f,hf,rfl⟩))
theorem M.an3(hp:x.ae=26)(t p q:Int)(f:Int)(hf:∃j:Nat,x.k=j∧x.aH[j]?=some f):Loc C {x with t:=t,point:=p,bF:=q,fire:=f,ae:=27}∧∀c,aL {x with t:=t,point:=p,bF:=q,fire:=f,ae:=27} c↔aL x c:=M.gT L hk (.inr (.inr (.inl ⟨hp,t,p,q,f,hf,rfl⟩)))
theorem M.an4(hp:x.ae=28):Loc C {x with res:={x.res with aJ:=6},k:=x.aq.length,ae:=30}∧∀c,aL {x with res:={x.res with aJ:=6},k:=x.aq.length,ae:=30} c↔aL x c:=M.gT L hk (.inr (.inr (.inr ⟨hp,rfl⟩)))
theorem M.gR{y:bI}(h:(x.ae=30∧(1<x.k)∧y={x with k:=x.k-1})∨(x.ae=30∧(x.k=1)∧(x.res.aJ=0)∧y={x with k:=x.k-1,ae:=13})∨(x.ae=30∧(x.k=1)∧(x.res.aJ≠0)∧(x.bA≠[])∧y={x with k:=x.k-1,ae:=34})∨(x.ae=33∧(1<x.k)∧y={x with k:=x.k-1})∨(x.ae=33∧(x.k=1)∧y={x with k:=x.k-1,ae:=34})):lH x y∧Loc C y∧∀c,aL y c↔aL x c∧x.aq[(x.k-1).toNat]?≠some c:=by
 rcases h with⟨hp,jg,hy⟩|⟨hp,jg,hc,hy⟩|⟨hp,jg,hc,ha,hy⟩|⟨hp,jg,hy⟩|⟨hp,jg,hy⟩
 all_goals
  have e:aP y=aP x:=bp8
  obtain⟨s1,s2,s3⟩:=L.oW hk oX oX oX oX;have cP:=s1.Ei;have ja:=s1.ne;have fX:=s1.BD;have hpos:0<x.aq.length:=pd cP;have nT:0<x.aH.length:=pd ja;have kE:=s2.2.1 oX
  have nL:gU C y∧Ej y∧nm y:=by
   subst hy;exact az2
  have dJ:∀c,aL y c↔aL x c∧x.aq[(x.k-1).toNat]?≠some c:=by
   exact aX4
  try have oF:x.res.aJ≠1:=fun h=>ha (s3.none_ oX)
  have iw:cV (aP x) C y↔cV (aP x) C x:=bp7
  subst hy;obtain⟨l1,l2,l3,l4,l5,l6,l7,l8,l9,kN,kO,kP,kQ,kR,mT,mU,kS,mV,kT,kY,mW,kU,kV,kW⟩:=L;clear l8 fX;refine⟨?_,?_,dJ⟩
  ·exact bh6
  ·exact bh7
theorem M.an5(hp:x.ae=30)(jg:1<x.k):lH x {x with k:=x.k-1}∧Loc C {x with k:=x.k-1}∧∀c,aL {x with k:=x.k-1} c↔aL x c∧x.aq[(x.k-1).toNat]?≠some c:=M.gR L hk (.inl ⟨hp,jg,rfl⟩)
theorem M.an6(hp:x.ae=30)(jg:x.k=1)(hc:x.res.aJ=0):lH x {x with k:=x.k-1,ae:=13}∧Loc C {x with k:=x.k-1,ae:=13}∧∀c,aL {x with k:=x.k-1,ae:=13} c↔aL x c∧x.aq[(x.k-1).toNat]?≠some c:=M.gR L hk (.inr (.inl ⟨hp,jg,hc,rfl⟩))
theorem M.an7(hp:x.ae=30)(jg:x.k=1)(hc:x.res.aJ≠0)(ha:x.bA≠[]):lH x {x with k:=x.k-1,ae:=34}∧Loc C {x with k:=x.k-1,ae:=34}∧∀c,aL {x with k:=x.k-1,ae:=34} c↔aL x c∧x.aq[(x.k-1).toNat]?≠some c:=M.gR L hk (.inr (.inr (.inl ⟨hp,jg,hc,ha,rfl⟩)))
theorem M.an8(hp:x.ae=33)(jg:1<x.k):lH x {x with k:=x.k-1}∧Loc C {x with k:=x.k-1}∧∀c,aL {x with k:=x.k-1} c↔aL x c∧x.aq[(x.k-1).toNat]?≠some c:=M.gR L hk (.inr (.inr (.inr (.inl ⟨hp,jg,rfl⟩))))
theorem M.an9(hp:x.ae=33)(jg:x.k=1):lH x {x with k:=x.k-1,ae:=34}∧Loc C {x with k:=x.k-1,ae:=34}∧∀c,aL {x with k:=x.k-1,ae:=34} c↔aL x c∧x.aq[(x.k-1).toNat]?≠some c:=M.gR L hk (.inr (.inr (.inr (.inr ⟨hp,jg,rfl⟩))))
theorem M.gQ{y:bI}(h:(x.ae=30∧(x.k=1)∧(x.res.aJ≠0)∧(∀s∈x.bA,s= -1)∧(x.wakes≠[])∧y={x with k:=x.k-1,ae:=17})∨(x.ae=30∧(x.k=1)∧(x.res.aJ≠0)∧(∀s∈x.bA,s= -1)∧(x.wakes=[])∧y={x with k:=x.k-1,ae:=18})):lH x y∧Loc C y∧∀c,aL y c↔aL x c∧x.aq[(x.k-1).toNat]?≠some c:=by
 rcases h with⟨hp,jg,hc,ha,hw,hy⟩|⟨hp,jg,hc,ha,hw,hy⟩
 all_goals
  have e:aP y=aP x:=bp8
  obtain⟨s1,s2,s3⟩:=L.oW hk oX oX oX oX;have cP:=s1.Ei;have ja:=s1.ne;have fX:=s1.BD;have hpos:0<x.aq.length:=pd cP;have nT:0<x.aH.length:=pd ja;have kE:=s2.2.1 oX
  have dJ:∀c,aL y c↔aL x c∧x.aq[(x.k-1).toNat]?≠some c:=by
   exact aX4
  have iw:cV (aP x) C y↔cV (aP x) C x:=bp7
  subst hy;obtain⟨l1,l2,l3,l4,l5,l6,l7,l8,l9,kN,kO,kP,kQ,kR,mT,mU,kS,mV,kT,kY,mW,kU,kV,kW⟩:=L;clear l8 fX;refine⟨?_,?_,dJ⟩
  ·clear l1 l2 l3 l4 l5 l6 l7 l9 kN kO kP kQ kR kS kT kY kU kV kW dJ s1 s3;exact aA4
  ·exact bh7
theorem M.ao0(hp:x.ae=30)(jg:x.k=1)(hc:x.res.aJ≠0)(ha:∀s∈x.bA,s= -1)(hw:x.wakes≠[]):lH x {x with k:=x.k-1,ae:=17}∧Loc C {x with k:=x.k-1,ae:=17}∧∀c,aL {x with k:=x.k-1,ae:=17} c↔aL x c∧x.aq[(x.k-1).toNat]?≠some c:=M.gQ L hk (.inl ⟨hp,jg,hc,ha,hw,rfl⟩)
theorem M.ao1(hp:x.ae=30)(jg:x.k=1)(hc:x.res.aJ≠0)(ha:∀s∈x.bA,s= -1)(hw:x.wakes=[]):lH x {x with k:=x.k-1,ae:=18}∧Loc C {x with k:=x.k-1,ae:=18}∧∀c,aL {x with k:=x.k-1,ae:=18} c↔aL x c∧x.aq[(x.k-1).toNat]?≠some c:=M.gQ L hk (.inr ⟨hp,jg,hc,ha,hw,rfl⟩)
theorem M.aq0(hp:x.ae=29)(jg:x.k+1<x.aH.length):lH x {x with k:=x.k+1}∧Loc C {x with k:=x.k+1}∧∀c,aL {x with k:=x.k+1} c↔aL x c:=by
 have e:aP {x with k:=x.k+1}=aP x:=rfl;obtain⟨s1,s2,s3⟩:=L.oW hk oX oX oX oX;have cP:=s1.Ei;have ja:=s1.ne;have fX:=s1.BD;have hpos:0<x.aq.length:=pd cP;have nT:0<x.aH.length:=pd ja;have kE:=s2.2.2 oX
 have nL:gU C {x with k:=x.k+1}∧Ej {x with k:=x.k+1}∧nm {x with k:=x.k+1}:=by
  exact az2
 have dJ:∀c,aL {x with k:=x.k+1} c↔aL x c:=by
  exact bb3
 have iw:cV (aP x) C {x with k:=x.k+1}↔cV (aP x) C x:=Iff.rfl;exact bv1
theorem M.aq1(hp:x.ae=29)(t:Int):lH x {x with bJ:=t,k:=x.aq.length,ae:=30}∧Loc C {x with bJ:=t,k:=x.aq.length,ae:=30}∧∀c,aL {x with bJ:=t,k:=x.aq.length,ae:=30} c↔aL x c:=by
 have e:aP {x with bJ:=t,k:=x.aq.length,ae:=30}=aP x:=rfl;obtain⟨s1,s2,s3⟩:=L.oW hk oX oX oX oX;have cP:=s1.Ei;have ja:=s1.ne;have fX:=s1.BD;have hpos:0<x.aq.length:=pd cP;have nT:0<x.aH.length:=pd ja;have kE:=s2.2.2 oX;have Dj:=L.BE hk oX
 have nL:gU C {x with bJ:=t,k:=x.aq.length,ae:=30}∧Ej {x with bJ:=t,k:=x.aq.length,ae:=30}∧nm {x with bJ:=t,k:=x.aq.length,ae:=30}:=by
  exact az2
 have dJ:∀c,aL {x with bJ:=t,k:=x.aq.length,ae:=30} c↔aL x c:=by
  intro c;unfold aL;rw[e,aF hk,aF hk];have e1:bC x=x.aq.length:=bk3
  have e2:bC {x with bJ:=t,k:=x.aq.length,ae:=30}=x.aq.length:=bk3
  rw[e1,e2]
 have iw:cV (aP x) C {x with bJ:=t,k:=x.aq.length,ae:=30}↔cV (aP x) C x:=Iff.rfl;obtain⟨l1,l2,l3,l4,l5,l6,l7,l8,l9,kN,kO,kP,kQ,kR,mT,mU,kS,mV,kT,kY,mW,kU,kV,kW⟩:=L;clear l8 fX;refine⟨?_,?_,dJ⟩
 ·clear l1 l2 l3 l4 l5 l6 l7 l9 kN kO kP kQ kR kS kT kU kV kW nL dJ s1 s3;exact aA4
 ·exact bh7
theorem M.aq2(hp:x.ae=32)(jg:x.k+1<x.aH.length):Loc C {x with k:=x.k+1}∧∀c,aL {x with k:=x.k+1} c↔aL x c:=by
 have e:aP {x with k:=x.k+1}=aP x:=rfl;obtain⟨s1,s2,s3⟩:=L.oW hk oX oX oX oX;have cP:=s1.Ei;have ja:=s1.ne;have fX:=s1.BD;have hpos:0<x.aq.length:=pd cP;have nT:0<x.aH.length:=pd ja;have kE:=s2.2.2 oX
 have nL:gU C {x with k:=x.k+1}∧Ej {x with k:=x.k+1}∧nm {x with k:=x.k+1}:=by
  exact az2
 have dJ:∀c,aL {x with k:=x.k+1} c↔aL x c:=by
  exact bb3
 have iw:cV (aP x) C {x with k:=x.k+1}↔cV (aP x) C x:=Iff.rfl;exact bh5
theorem M.aq3(hp:x.ae=32):Loc C {x with k:=x.aq.length,ae:=33}∧∀c,aL {x with k:=x.aq.length,ae:=33} c↔aL x c:=by
 have e:aP {x with k:=x.aq.length,ae:=33}=aP x:=rfl;obtain⟨s1,s2,s3⟩:=L.oW hk oX oX oX oX;have cP:=s1.Ei;have ja:=s1.ne;have fX:=s1.BD;have hpos:0<x.aq.length:=pd cP;have nT:0<x.aH.length:=pd ja;have kE:=s2.2.2 oX
 have nL:gU C {x with k:=x.aq.length,ae:=33}∧Ej {x with k:=x.aq.length,ae:=33}∧nm {x with k:=x.aq.length,ae:=33}:=by
  exact az2
 have dJ:∀c,aL {x with k:=x.aq.length,ae:=33} c↔aL x c:=by
  intro c;unfold aL;rw[e,aF hk,aF hk];have e1:bC x=x.aq.length:=bk3
  have e2:bC {x with k:=x.aq.length,ae:=33}=x.aq.length:=bk3
  rw[e1,e2]
 have iw:cV (aP x) C {x with k:=x.aq.length,ae:=33}↔cV (aP x) C x:=Iff.rfl;exact bh5
theorem M.aq4(hp:x.ae=28)(jg:x.k+1<x.aH.length)(i j:Nat)(hi:x.aH[x.k.toNat]?=some (i:Int)):Loc C {x with bA:=x.bA.set i j,k:=x.k+1}∧∀c,aL {x with bA:=x.bA.set i j,k:=x.k+1} c↔aL x c:=by
 have e:aP {x with bA:=x.bA.set i j,k:=x.k+1}=aP x:=rfl;obtain⟨s1,s2,s3⟩:=L.oW hk oX oX oX oX;have cP:=s1.Ei;have ja:=s1.ne;have fX:=s1.BD;have hpos:0<x.aq.length:=pd cP;have nT:0<x.aH.length:=pd ja;have kE:=s2.2.2 oX
 have nL:gU C {x with bA:=x.bA.set i j,k:=x.k+1}∧Ej {x with bA:=x.bA.set i j,k:=x.k+1}∧nm {x with bA:=x.bA.set i j,k:=x.k+1}:=by
  refine⟨s1.mk' rfl rfl rfl,?_,?_⟩
  ·exact aW3
  ·obtain⟨a1,a2,a3,a4,a5,a6,a7⟩:=s3;have sl:x.bA.length=(aP x).cases.length:=a2 oX;obtain⟨_,cc,mP,_⟩:=s1.ord _ (lf hi);have FM:i<x.bA.length:=by have:=cA mP;omega
   have jA:(x.k.toNat:Int)=x.k:=oX;have Dx:=s1.nd;have U4:=lf hi;have cM:∀(q:Nat) (v:Int),x.aH[q]?=some v→q≠x.k.toNat→0≤v∧v.toNat≠i:=fun q v hq Ky=>bv5
   clear fX cP ja s1 s2 L;refine⟨fun h=>bm3,fun _=>bs0,fun q v hq hv=>?_,fun h=>bm3,fun h=>bm3,fun _ q v hq ho=>?_,fun _ q v hq ho=>?_⟩
   ·exact bb9
   ·simp only at hq ho ⊢;rw[oA (dE (cM q v ho oX).2)];exact a6 hp q v oX ho
   ·simp only at hq ho ⊢;by_cases Ky:q=x.k.toNat
    ·subst Ky;rw[hi]at ho;cases ho;exact⟨j,by rw[oU,nH FM],oX⟩
    ·rw[oA (dE (cM q v ho Ky).2)];exact a7 hp q v oX ho
 have dJ:∀c,aL {x with bA:=x.bA.set i j,k:=x.k+1} c↔aL x c:=by
  intro c;unfold aL;rw[e,aF hk,aF hk];have e1:bC x=x.aq.length:=bk3
  have e2:bC {x with bA:=x.bA.set i j,k:=x.k+1}=x.aq.length:=bk3
  rw[e1,e2]
 have iw:cV (aP x) C {x with bA:=x.bA.set i j,k:=x.k+1}↔cV (aP x) C x:=Iff.rfl;exact bh5
theorem M.aq5(hp:x.ae=28)(jg:x.k+1=x.aH.length)(i j:Nat)(hi:x.aH[x.k.toNat]?=some (i:Int)):Loc C {x with bA:=x.bA.set i j,k:=0,ae:=29}∧∀c,aL {x with bA:=x.bA.set i j,k:=0,ae:=29} c↔aL x c:=by
 have e:aP {x with bA:=x.bA.set i j,k:=0,ae:=29}=aP x:=rfl;obtain⟨s1,s2,s3⟩:=L.oW hk oX oX oX oX;have cP:=s1.Ei;have ja:=s1.ne;have fX:=s1.BD;have hpos:0<x.aq.length:=pd cP;have nT:0<x.aH.length:=pd ja;have kE:=s2.2.2 oX
 have nL:gU C {x with bA:=x.bA.set i j,k:=0,ae:=29}∧Ej {x with bA:=x.bA.set i j,k:=0,ae:=29}∧nm {x with bA:=x.bA.set i j,k:=0,ae:=29}:=by
  refine⟨s1.mk' rfl rfl rfl,?_,?_⟩
  ·exact aW3
  ·obtain⟨a1,a2,a3,a4,a5,a6,a7⟩:=s3;have sl:x.bA.length=(aP x).cases.length:=a2 oX;obtain⟨_,cc,mP,_⟩:=s1.ord _ (lf hi);have FM:i<x.bA.length:=by have:=cA mP;omega
   have jA:(x.k.toNat:Int)=x.k:=oX;have Dx:=s1.nd;have U4:=lf hi;have cM:∀(q:Nat) (v:Int),x.aH[q]?=some v→q≠x.k.toNat→0≤v∧v.toNat≠i:=fun q v hq Ky=>bv5
   clear fX cP ja s1 s2 L;refine⟨fun h=>bj6,fun _=>bs0,fun q v hq hv=>?_,fun _ v hv=>?_,fun h=>bj6,fun h=>bj6,fun h=>bj6⟩
   ·exact bb9
   ·simp only at hv ⊢;obtain⟨q,Su⟩:=List.mem_iff_getElem?.1 hv;by_cases Ky:q=x.k.toNat
    ·subst Ky;rw[hi]at Su;cases Su;exact⟨j,by rw[oU,nH FM],oX⟩
    ·rw[oA (dE (cM q v Su Ky).2)];exact a7 hp q v (by have:=cA Su;omega) Su
 have dJ:∀c,aL {x with bA:=x.bA.set i j,k:=0,ae:=29} c↔aL x c:=by
  intro c;unfold aL;rw[e,aF hk,aF hk];have e1:bC x=x.aq.length:=bk3
  have e2:bC {x with bA:=x.bA.set i j,k:=0,ae:=29}=x.aq.length:=bk3
  rw[e1,e2]
 have iw:cV (aP x) C {x with bA:=x.bA.set i j,k:=0,ae:=29}↔cV (aP x) C x:=Iff.rfl;exact bh5
theorem M.aq6(hp:x.ae=34)(jg:x.k+1<x.aH.length)(i:Nat)(hi:x.aH[x.k.toNat]?=some (i:Int)):Loc C {x with bA:=x.bA.set i (-1),k:=x.k+1}∧∀c,aL {x with bA:=x.bA.set i (-1),k:=x.k+1} c↔aL x c:=by
 have e:aP {x with bA:=x.bA.set i (-1),k:=x.k+1}=aP x:=rfl;obtain⟨s1,s2,s3⟩:=L.oW hk oX oX oX oX;have cP:=s1.Ei;have ja:=s1.ne;have fX:=s1.BD;have hpos:0<x.aq.length:=pd cP;have nT:0<x.aH.length:=pd ja;have kE:=s2.2.2 oX
 have nL:gU C {x with bA:=x.bA.set i (-1),k:=x.k+1}∧Ej {x with bA:=x.bA.set i (-1),k:=x.k+1}∧nm {x with bA:=x.bA.set i (-1),k:=x.k+1}:=by
  refine⟨s1.mk' rfl rfl rfl,?_,?_⟩
  ·exact aW3
  ·obtain⟨a1,a2,a3,a4,a5,a6,a7⟩:=s3;have sl:x.bA.length=(aP x).cases.length:=a2 oX;obtain⟨_,cc,mP,_⟩:=s1.ord _ (lf hi);have FM:i<x.bA.length:=by have:=cA mP;omega
   have jA:(x.k.toNat:Int)=x.k:=oX;have Dx:=s1.nd;have U4:=lf hi;have cM:∀(q:Nat) (v:Int),x.aH[q]?=some v→q≠x.k.toNat→0≤v∧v.toNat≠i:=fun q v hq Ky=>bv5
   clear fX cP ja s1 s2 L;refine⟨fun h=>bm3,fun _=>bs0,fun q v hq hv=>?_,fun h=>bm3,fun _ q v hq ho=>?_,fun h=>bm3,fun h=>bm3⟩
   ·simp only at hq;by_cases U5:q=i
    ·subst U5;rw[nH FM]at hq;cases hq;exact aX rfl hv
    ·rw[oA (dE U5)]at hq;exact a3 q v hq hv
   ·simp only at hq ho ⊢;by_cases Ky:q=x.k.toNat
    ·subst Ky;rw[hi]at ho;cases ho;rw[oU,nH FM]
    ·rw[oA (dE (cM q v ho Ky).2)];exact a5 hp q v oX ho
 have dJ:∀c,aL {x with bA:=x.bA.set i (-1),k:=x.k+1} c↔aL x c:=by
  intro c;unfold aL;rw[e,aF hk,aF hk];have e1:bC x=0:=bk3
  have e2:bC {x with bA:=x.bA.set i (-1),k:=x.k+1}=0:=bk3
  rw[e1,e2]
 have iw:cV (aP x) C {x with bA:=x.bA.set i (-1),k:=x.k+1}↔cV (aP x) C x:=Iff.rfl;exact bh5
theorem M.aq7(hp:x.ae=34):Loc C {x with k:=0,bA:=[],ae:=18}∧∀c,aL {x with k:=0,bA:=[],ae:=18} c↔aL x c:=by
 have e:aP {x with k:=0,bA:=[],ae:=18}=aP x:=rfl;obtain⟨s1,s2,s3⟩:=L.oW hk oX oX oX oX;have cP:=s1.Ei;have ja:=s1.ne;have fX:=s1.BD;have hpos:0<x.aq.length:=pd cP;have nT:0<x.aH.length:=pd ja;have kE:=s2.2.2 oX
 have dJ:∀c,aL {x with k:=0,bA:=[],ae:=18} c↔aL x c:=by
  intro c;unfold aL;rw[e,aF hk,aF hk];have e1:bC x=0:=bk3
  have e2:bC {x with k:=0,bA:=[],ae:=18}=0:=bk3
  rw[e1,e2]
 have iw:cV (aP x) C {x with k:=0,bA:=[],ae:=18}↔cV (aP x) C x:=Iff.rfl;exact bh5
end
end
end V
open Go.RowKit Go.Proofs.Tryz
section
variable{af:Nat}{F:Fx}{w w0 w':World}{m m0 m':Mem}{S S':Wd}{L:List (Nat×Obj)}
section
variable(R:bz af F w m S)(aG:Good S)(g:Nat)(x:bI)(hx:S.gs[g]?=some x)(ch:Int)(bO:eX ch)
include R aG g x hx ch bO
theorem Px(hp:x.ae=10)(S':Wd)(hm:rE S g {cK:=true,g:=g,ch:=ch,case:= -1}=some S'):Calls prog 108 #[bR F,I g,I ch] w (ee (To af F m w S')):=by
 have eM:=cA hx;have c2:=R.dM;have c3:=R.eu;have c8:=R.dR;have c9:=R.ed;obtain⟨aU,cm,fO,aY,dx,aZ,ez,dz,eB⟩:=R.b3X R.aB.al R.aB.gs R.aB.ah;have g2:=R.g hx 2 _ rfl;rw[hp]at g2;have OS:=ag (At.refl R);obtain⟨HG,ie⟩:=dA hx aG;have HM:=ag hm;clear R hx hp aG hm;unfold bR;go_enter func108,ntmps108;go_wp2_with (go_at_call 102;refine(BY OS.out.bj ie g _ _ HM).mono ?_;rintro e wN ⟨rfl,T⟩;have HZ:=ag T;clear T);go_end0;exact⟨rfl,HZ⟩
theorem Py(hp:x.ae=11)(S2:Wd)(hm:lh S (2*ch-2) x.bY=some S2):Calls prog 108 #[bR F,I g,I ch] w (ee fun w'=>To af F m w (S2.ay g {x with bJ:=S2.av,ae:=12}) w'):=by
 have eM:=cA hx;have c2:=R.dM;have c3:=R.eu;have c8:=R.dR;have c9:=R.ed;obtain⟨aU,cm,fO,aY,dx,aZ,ez,dz,eB⟩:=R.b3X R.aB.al R.aB.gs R.aB.ah;have g2:=R.g hx 2 _ rfl;have g8:=R.g hx 8 _ rfl;rw[hp]at g2;have OS:=ag (At.refl R);obtain⟨HG,ie⟩:=dA hx aG;obtain⟨mi,Pz⟩:∃mi,x.bY=mi:=⟨_,rfl⟩;rw[Pz]at hm g8;have nU:Hid (S2.gs[g]?=some x):=by obtain⟨q,b,_,rfl⟩:=qk hm;exact hx
 have Me:g<S2.gs.length:=cA nU;have HM:=ag hm;have HRC:=ag (fun W=>xB ch bO W);clear R hx hp aG hm Pz;unfold bR;go_enter func108,ntmps108;go_wp2_with fail
 refine wp_region_still_tail 10 kX kX ?_;change wpStill _ _ w.drew (fun a=>wpList _ _ _ _ a w.drew) _ _;simp only[sS,aW1,sU,rC];repeat still_step
 still_call ((HRC _).mono fun _ _ h=>⟨h.1,h.2.symm⟩);repeat still_step
 refine wpStill_nil ?_;go_wp2_with (go_at_call 103;refine(yZ OS.out.aI HM).mono ?_;rintro e wN ⟨⟨bb,rfl⟩,A0⟩;have RN:=A0.bj;have e2:=RN.dM;have p2:=RN.g nU 2 _ rfl;have wW:=RN.frozen RN.aB.gs (g*25+2);have p11:=RN.g nU 11 _ rfl;have Z5:=RN.frozen RN.aB.gs (g*25+11);have A1:=A0.g nU {x with bJ:=S2.av} (q:=11) (v:=I S2.av);have A2:=A1.g (az nU) {x with bJ:=S2.av,ae:=12} (q:=2) (v:=I 12);rw[aA]at A2;have HA:=ag A2;clear A1 A2;clear A0 RN);go_end0;exact⟨rfl,m,HA⟩
theorem Mf(hp:x.ae=14)(s:Nat)(hs:x.aN=s)(sd:gn)(RY:S.ah[s]?=some sd)(hd:sd.done=true):Calls prog 108 #[bR F,I g,I ch] w (ee fun w'=>To af F m w (S.ay g {x with res:={aJ:=1,case:= -1,v:=sd.v,ok:=true},aN:= -1,ae:=15}) w'):=by
 have eM:=cA hx;have c2:=R.dM;have c3:=R.eu;have c8:=R.dR;have c9:=R.ed;obtain⟨aU,cm,fO,aY,dx,aZ,ez,dz,eB⟩:=R.b3X R.aB.al R.aB.gs R.aB.ah;obtain⟨g2,xV⟩:=R.ps hx 2 _ rfl;obtain⟨g15,tT⟩:=R.ps hx 15 _ rfl;obtain⟨g16,tU⟩:=R.ps hx 16 _ rfl;obtain⟨g17,tV⟩:=R.ps hx 17 _ rfl;obtain⟨g18,tW⟩:=R.ps hx 18 _ rfl;obtain⟨g19,tX⟩:=R.ps hx 19 _ rfl;rw[hp]at g2;have OS:=ag (At.refl R);obtain⟨HG,ie⟩:=dA hx aG;have mj:s<S.ah.length:=cA RY;obtain⟨HS,qH,HD⟩:=ij hs RY hd;have HB:=ag (OS.out.res HG {aJ:=1,case:= -1});clear R hx hp aG RY hd hs;unfold bR;go_enter func108,ntmps108;go_wp2_with fail
 obtain⟨w1,jk,A1⟩:∃w1,w1=_∧At af F m w m w1 _:=⟨_,rfl,HB⟩;rw[←jk];have IS:Hid ((S.ay g {x with res:={aJ:=1,case:= -1}}).gs[g]?=some {x with res:={aJ:=1,case:= -1}}):=az HG;have R1:=A1.bj;have d9:=R1.ed;have l1:=R1.lt R1.aB.gs;have l2:=R1.lt R1.aB.ah;have l3:=R1.lt R1.aB.al;have d3:=R1.eu;have k2:=R1.g IS 2 _ rfl;have kf2:=R1.frozen R1.aB.gs (g*25+2);have k7:=R1.g IS 7 _ rfl;have kf7:=R1.frozen R1.aB.gs (g*25+7);have k17:=R1.g IS 17 _ rfl;have ar1:=R1.frozen R1.aB.gs (g*25+17);have k18:=R1.g IS 18 _ rfl;have ar2:=R1.frozen R1.aB.gs (g*25+18);rw[show({x with res:={aJ:=1,case:= -1}}:bI).aN=x.aN from rfl,HS.out]at k7;rw[show(S.ay g {x with res:={aJ:=1,case:= -1}}).ah.length=S.ah.length from rfl]at d9;rw[show(S.ay g {x with res:={aJ:=1,case:= -1}}).gs.length=S.gs.length by simp[Wd.ay]]at d3;have sn:(S.ay g {x with res:={aJ:=1,case:= -1}}).ah[s]?=some sd:=qH.out;have s0:=R1.s0 sn;have s1:=R1.s sn 1 _ rfl;have s2:=R1.s sn 2 _ rfl;have s3:=R1.s sn 3 _ rfl;have s4:=R1.s sn 4 _ rfl;have s5:=R1.s sn 5 _ rfl;have s6:=R1.s sn 6 _ rfl;rw[HD.out]at s6;have B1:=A1.g IS {x with res:={aJ:=1,case:= -1,v:=sd.v}} (q:=17) (v:=I sd.v);have B2:=B1.g (az IS) {x with res:={aJ:=1,case:= -1,v:=sd.v,ok:=true}} (q:=18) (v:=B true);rw[aA]at B2;have B3:=B2.g (az IS) {x with res:={aJ:=1,case:= -1,v:=sd.v,ok:=true},aN:= -1} (q:=7) (v:=I (-1));rw[aA]at B3;have B4:=B3.g (az IS) {x with res:={aJ:=1,case:= -1,v:=sd.v,ok:=true},aN:= -1,ae:=15} (q:=2) (v:=I 15);rw[aA]at B4;have HA:=ag B4;clear B1 B2 B3 B4;clear R1 sn A1 jk;go_region
 all_goals
  go_wp2;go_end0;try simp only[Nat.add_assoc,Nat.reduceAdd]
  refine⟨by trivial,m,At.eq (At.aI (HA.out.alloc (.cells #[B sd.cK,I sd.g,I sd.ch,I sd.case,B sd.cF,I sd.v,B true] 105)) ?_ ?_ ?_ ?_) ?_⟩<;>first|rfl|(simp[Wd.ay,my])
theorem Mg(hp:x.ae=14)(s:Nat)(hs:x.aN=s)(sd:gn)(RY:S.ah[s]?=some sd)(hd:sd.done=false):Calls prog 108 #[bR F,I g,I ch] w (ee fun w'=>To af F m w (S.ay g {x with res:={aJ:=1,case:= -1},aN:= -1,ae:=15}) w'):=by
 have eM:=cA hx;have c2:=R.dM;have c3:=R.eu;have c8:=R.dR;have c9:=R.ed;obtain⟨aU,cm,fO,aY,dx,aZ,ez,dz,eB⟩:=R.b3X R.aB.al R.aB.gs R.aB.ah;obtain⟨g2,xV⟩:=R.ps hx 2 _ rfl;obtain⟨g15,tT⟩:=R.ps hx 15 _ rfl;obtain⟨g16,tU⟩:=R.ps hx 16 _ rfl;obtain⟨g17,tV⟩:=R.ps hx 17 _ rfl;obtain⟨g18,tW⟩:=R.ps hx 18 _ rfl;obtain⟨g19,tX⟩:=R.ps hx 19 _ rfl;rw[hp]at g2;have OS:=ag (At.refl R);obtain⟨HG,ie⟩:=dA hx aG;have mj:s<S.ah.length:=cA RY;obtain⟨HS,qH,HD⟩:=ij hs RY hd;have HB:=ag (OS.out.res HG {aJ:=1,case:= -1});clear R hx hp aG RY hd hs;unfold bR;go_enter func108,ntmps108;go_wp2_with fail
 obtain⟨w1,jk,A1⟩:∃w1,w1=_∧At af F m w m w1 _:=⟨_,rfl,HB⟩;rw[←jk];have IS:Hid ((S.ay g {x with res:={aJ:=1,case:= -1}}).gs[g]?=some {x with res:={aJ:=1,case:= -1}}):=az HG;have R1:=A1.bj;have d9:=R1.ed;have l1:=R1.lt R1.aB.gs;have l2:=R1.lt R1.aB.ah;have l3:=R1.lt R1.aB.al;have d3:=R1.eu;have k2:=R1.g IS 2 _ rfl;have kf2:=R1.frozen R1.aB.gs (g*25+2);have k7:=R1.g IS 7 _ rfl;have kf7:=R1.frozen R1.aB.gs (g*25+7);have k17:=R1.g IS 17 _ rfl;have ar1:=R1.frozen R1.aB.gs (g*25+17);have k18:=R1.g IS 18 _ rfl;have ar2:=R1.frozen R1.aB.gs (g*25+18);rw[show({x with res:={aJ:=1,case:= -1}}:bI).aN=x.aN from rfl,HS.out]at k7;rw[show(S.ay g {x with res:={aJ:=1,case:= -1}}).ah.length=S.ah.length from rfl]at d9;rw[show(S.ay g {x with res:={aJ:=1,case:= -1}}).gs.length=S.gs.length by simp[Wd.ay]]at d3;have sn:(S.ay g {x with res:={aJ:=1,case:= -1}}).ah[s]?=some sd:=qH.out;have s0:=R1.s0 sn;have s1:=R1.s sn 1 _ rfl;have s2:=R1.s sn 2 _ rfl;have s3:=R1.s sn 3 _ rfl;have s4:=R1.s sn 4 _ rfl;have s5:=R1.s sn 5 _ rfl;have s6:=R1.s sn 6 _ rfl;rw[HD.out]at s6;have B1:=A1.g IS {x with res:={aJ:=1,case:= -1},aN:= -1} (q:=7) (v:=I (-1));have B2:=B1.g (az IS) {x with res:={aJ:=1,case:= -1},aN:= -1,ae:=15} (q:=2) (v:=I 15);rw[aA]at B2;have HA:=ag B2;clear B1 B2;clear R1 sn A1 jk;go_region
 all_goals
  go_wp2;go_end0;try simp only[Nat.add_assoc,Nat.reduceAdd]
  refine⟨by trivial,m,At.eq (At.aI (HA.out.alloc (.cells #[B sd.cK,I sd.g,I sd.ch,I sd.case,B sd.cF,I sd.v,B false] 105)) ?_ ?_ ?_ ?_) ?_⟩<;>first|rfl|(simp[Wd.ay,my])
theorem IT(hp:x.ae=10∨x.ae=11∨x.ae=14)(S':Wd)(hm:j1 S g ch=some S'):Calls prog 108 #[.pointer (some ⟨F.al,0,none⟩),I g,I ch] w (ee (To af F m w S')):=by
 unfold j1 at hm;simp only[bW,hx,eN]at hm;by_cases ph:x.ae=10
 ·rw[aF ph]at hm;exact Px R aG g x hx ch bO ph _ hm
 rw[aE ph]at hm;by_cases rA:x.ae=11
 ·rw[aF rA]at hm;unfold rF at hm;simp only[bW,cI,hx,oZ,exists_eq_left']at hm;obtain⟨S2,h2,hm⟩:=hm;subst hm;exact Py R aG g x hx ch bO rA _ h2
 rw[aE rA]at hm;simp only[cI,oZ]at hm;obtain⟨s,hs,sd,RY,hm⟩:=hm;subst hm
 cases hd:sd.done with
 |true=>exact Mf R aG g x hx ch bO oX s (du hs) sd RY hd
 |false=>exact Mg R aG g x hx ch bO oX s (du hs) sd RY hd
end
end
end Go.Proofs.YtadifmnmfnihdaaGreat
