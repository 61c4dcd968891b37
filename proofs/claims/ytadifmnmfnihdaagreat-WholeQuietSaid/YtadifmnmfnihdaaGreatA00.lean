import Derived.StillTailTactics
import Derived.Deep.CutRange
import Derived.Deep.CutBlock
import Derived.Deep.WholeRow
import Derived.Shelf.Bits.Mul64
import Derived.ChangeOld
import Derived.ChangeSame
import Derived.Deep.Fields
import Derived.Deep.Grids
import Derived.Deep.Slices
import Derived.Deep.Strs
import Derived.OpenShut
import Derived.ProofKit
import Derived.Maps.OwnOps
import Derived.Maps.Views
import Derived.BigQuiet
import Derived.BigRegion
import Derived.Deep.DeepFit
import Derived.Deep.LoopGhost
import Derived.Deep.QuietTactic
import Derived.Deep.RegionHeld3
import Derived.Lib.Hide
import Derived.Test.YtadifmnmfnihdaaGreatRows
import Derived.WalkKit
import Derived.WalkLawsBesides
import Derived.WalkSpells
import Derived.Laws.AppendOwnNone
import Derived.Laws.CopyOwn
import Derived.Deep.AppendLies
import Derived.Deep.RegionLaw
import Derived.Deep.Cut
import Derived.Deep.RegionWith
set_option linter.all false
set_option maxRecDepth 100000
set_option maxHeartbeats 40000000
namespace Go.Proofs.YtadifmnmfnihdaaGreat
abbrev am:=Option Addr
abbrev ap:=List (List Nat)
abbrev bi:=List Value
abbrev bv:=List Nat
abbrev ce:=List Int
abbrev dl:=Array Value
abbrev gt:=Calls Go.Proofs.Tryz.prog
theorem ii{α:Sort _}{a:α}:a=a:=rfl
section
variable{P:Prop}
theorem bZ0(h:P:=by
 obtain⟨l1,l2,l3,l4,l5,l6,l7,l8,l9,kN,kO,kP,kQ,kR,mT,mU,kS,mV,kT,kY,mW,kU,kV,kW⟩:=L;refine⟨?_,?_,?_⟩
 .constructor<;>simp only[e,hp,aW,aT,bm,eV]at*<;>grind
 .constructor<;>simp only[e,hp,aW,aT,bm,bG]at*<;>grind
 grind [aL,cH]):P:=h
theorem bZ1(h:P:=by go_simp;refine hK _ _ ?_;clear hK K;refine aj1 (rs:=[7]) (by kernel_rfl) (by simp) (ae7 ii (λK hK=>?_) ag6);refine qR (us:=(NC la ln lc)) (w2:=w5) ii (.tmp 96) (.tmp 98) 35 rfl underlying35 gi RO gz1 RQ ii (by decide) (by decide) ii ii (by simp[Value.oneCell']) (va,j,vc) j ii Yh ii (by omega) ab0 ?_;intro gg hU w9 jl bX bE;have kz:(w5.alloc (.cells (NC la ln lc) 100)).grownBy w9 (Value.slice va j vc).ownBlock:=lZ bX ii ii ii ii;have Ae:w9.heap[wb]?=w5.heap[wb]?:=(by rw[kz.block wb (by simp;omega) (λe=>NA.out e.symm),gf _ _ _ lwb]);have d3:w9.cell? ⟨wb,3,none⟩=some (.slice va j vc):=(kZ Ae).trans c3;have Yi:w9.frozen? (wb,3)=false:=(xp Ae).trans Yg;have H9:=bY4;clear jl bX bE kz Ae;refine hK _ _ ?_;clear hK K;refine aj1 (rs:=[8]) (by kernel_rfl) (by simp) (ae7 ii (λK hK=>?_) ag6);go_simp;refine hK _ _ ?_;clear hK K;refine aj1 (rs:=[9]) (by kernel_rfl) (by simp) (ae7 ii (λK hK=>?_) ag6);go_simp;refine hK _ _ ?_;clear hK K;refine aj1 (rs:=[10]) (by kernel_rfl) (by simp) (ae7 ii (λK hK=>?_) ag6);go_simp;refine hK _ _ ?_;clear hK K;refine wpAny_done (by kernel_rfl) ?_ _;exact HQ _ _ _ _ _ _ _ _ _ _ _ gg hU H9.out.1 H9.out.2.1 (by simpa using H9.out.2.2)):P:=h
theorem bZ2(h:P:=by constructor<;>simp only[e,hp,aW,aT,bm,bG]at*<;>grind):P:=h
theorem bZ3(h:P:=by
 refine⟨s1.mk' ii ii ii,?_,?_⟩
 .refine⟨λh=>?_,λh=>?_,λh=>?_⟩<;>simp only[hp]at h ⊢<;>omega
 obtain⟨a1,a2,a3,a4,a5,a6,a7⟩:=s3;clear fX cP ja s1 s2 L;constructor<;>simp only[hp,e]at*<;>grind):P:=h
theorem bZ4(h:P:=by constructor<;>simp only[e,hp,aW,aT,bm,eV]at*<;>grind):P:=h
theorem bZ5(h:P:=by refine⟨λh=>?_,λh=>?_,λh=>?_⟩<;>simp only[hp]at h ⊢<;>omega):P:=h
theorem bZ6(h:P:=by
 have HM:=ag hm;obtain⟨HX,HO,jc⟩:=ij hx ho hx;clear R hx ho hk hm;unfold bR;go_enter func90,ntmps90;go_wp2_with (go_at_call 92;refine(Uq HR g HX HO dj).mono ?_;rintro e w1 ⟨⟨cv,rfl,jB⟩,A1⟩;obtain⟨ca,cc,rfl⟩:=bV0;have iv:=bV1;clear A1 jB);go_wp2_with (go_at_call 143;refine(Gd iv.out.aI bO ca o.cases cc HM).mono ?_;rintro e wN ⟨rfl,X⟩;have RN:=bP5;have e2:=RN.dM;have l1:=bU0;have l2:=bS4;have n1:=bW0;obtain⟨n2,p2,ZM,Ip,UZ,U0,FB,Bo⟩:=bJ5;obtain⟨wW,Dm,Fz,FA,FC,FD⟩:=bJ9;have bt3:=bQ0;have Y1:=X.res jc {aJ:=1,case:= -1,ok:=true,n:=n};have Y2:=bW1;have Y3:=bW2;rw[aA,aA]at Y3;have HZ:=ag Y3;clear X Y1 Y2 Y3 RN);go_end0;refine⟨ii,m,?_⟩;try simp only[aj2,Nat.reduceAdd]
 exact HZ.out.at_):P:=h
theorem bZ7(h:P:=by
 go_wp2;go_quiet (fail);go_wp2;refine UV (v:=.agg #[I 0,I 0,I 0,I 0,(),B false]) ?_ rfl ?_
 .simp[results,Tryz.results92,go_sem]
 have hB:Below w.heap.size w ((((((((w.alloc (.cells #[.int .i64 0,.int .i64 0,.int .i64 0,.int .i64 0,(),.bool false] 49)).drewN nq).setCell w.heap.size (I 0)).setCell (w.heap.size,1) (I 0)).setCell (w.heap.size,2) (I 0)).setCell (w.heap.size,3) (I 0)).setCell (w.heap.size,4) ()).setCell (w.heap.size,5) (B false)):=
  (((((((below_drewN ((fp).alloc cG _) _).setCell cG _).setCell cG _).setCell cG _).setCell cG _).setCell cG _).setCell cG _)
 exact⟨_,ii,HR.out.heap hB,.inl ⟨ii,ii⟩⟩):P:=h
theorem bZ8(h:P:=by rw[hf _ (by simp) (by simp) (by simp) (by simp)];rfl):P:=h
theorem bZ9(h:P:=by go_wp2;go_ret;exact⟨ii,ii⟩):P:=h
theorem ca0(h:P:=by
 have hn:¬(y.ae=31\/y.ae=32):=λh=>by have:=(U1.aR oz).2 h;rw[B9]at this;cases this
 have ZQ:aW y:=by
  rcases b6 with⟨h,_⟩|⟨_,h⟩
  .exact aX oz h
  right;grind
 refine⟨ZQ,?_⟩;have h1:=U1.aN.1;by_cases h2:0<=y.aN
 .grind [Loc.aR]
 omega):P:=h
theorem ca1(h:P:=by refine aZ7 ii ii (aV1 X.head) bu0 ?_;refine⟨ii,At.xF ?_ (X.loc _ (rn ..)).2 (aj5 _) _ _ _ _ _⟩;exact X.at_.aI):P:=h
theorem ca2(h:P:=by go_enter func25,ntmps25;go_wp2_with (first|(go_at_call 28;refine HB.out.mono ?_;rintro e w1 ⟨v,rfl,ho,hbb⟩;obtain⟨a,c,rfl,jF⟩:=ho.rd (by rw[<-hN.out];omega);rw[<-hN.out];obtain⟨b,off,rfl,hc⟩:=jF.at i (by rw[<-hN.out];exact hin);rw[HG.out]at hc;have IX:=ag hbb;clear ho hbb jF)|(go_at_call 30;refine(HO _ (HX.out.below IX)).mono ?_;rintro e w2 ⟨rfl,T⟩;have HT:=ag T;clear T));go_ret;exact⟨ii,HT⟩):P:=h
theorem ca4(h:P:=by
 have:W3=w2.heap.size+1:=by rw[hW];simp
 refine wp_append_lies W3 s x t ho af e i z size bytes ht hi hz hsize hby hzs hsz v n xs hs (ou hown hW) w2 1 1 us.toList hx (by simpa using hus) (T4 hW) h1 (by omega) (by unfold maxLen;omega) (by have:=at0 (show n+1<=1000001 by omega) hbb;omega) (by omega) _ ii (λg cap w' ho hg hw hl=>h g cap w' ho hg (by obtain hw|hw:=hw;exact .inl hw;omega))):P:=h
theorem ca5(h:P:=by go_wp2_with (go_at_call 92;refine(Uq HR g HX HO dj).mono ?_;rintro e w1 ⟨⟨cv,rfl,jB⟩,A1⟩;obtain⟨ca,cc,rfl⟩:=bV0;have iv:=bW8;clear A1 jB);go_ret;exact⟨ii,m,iv.out.aI⟩):P:=h
theorem ca6(h:P:=by
 intro c;unfold aL;rw[e,aF hk,aF hk];have e1:bC x=(x.k-1).toNat+1:=(by simp[bC,hp];omega);have e2:bC y=(x.k-1).toNat:=by subst hy;simp[bC,hp];try omega
 have pJ:y.aq=x.aq:=(by subst hy;rfl);have dD:(x.k-1).toNat<x.aq.length:=(by omega);rw[e1,e2,pJ,qj dD];constructor
 .intro h;exact⟨.inl h,λh2=>OD fX h2 h⟩
 rintro⟨h|h,h2⟩
 .exact h
 exact aX h h2):P:=h
theorem ca7(h:P:=by go_wp2;go_ret;exact⟨ii,HR⟩):P:=h
theorem ca8(h:P:=by cases hm;clear R aG gv RY hr pL fA eK hh hn hp;unfold bR;go_enter func165,ntmps165;go_wp2_with (first|(go_at_call 138;refine HM.out.mono ?_;rintro e w1 ⟨rfl,rfl⟩)|(go_at_call 53;go_in)|(go_at_call 208;refine(BH Ap.out.bj HR uv lP sd.v).mono ?_;rw[Nq.out,En.out];rintro e wN ⟨rfl,A⟩;have HA:=ag A;clear A));go_ret;exact⟨ii,HA⟩):P:=h
theorem ca9(h:P:=by
 have k:∀j v,(#[I 2,I 1,I 0,.slice (some ⟨gb,rB,none⟩) 2 gc,.slice (some ⟨cb,uq,none⟩) 1 hc,.slice sa 2 sc,.slice ca 2 cc,.slice ma 0 mc,I 0,.slice da 0 dc,I 0,.slice xa 0 xc]:dl)[j]?=some v->W.cell? ⟨ab,j,none⟩=some v:=λj v hv=>cw hb cG _ _ (by rw[cr ZR];exact hv)
 simp_all):P:=h
theorem cb0(h:P:=by
 go_wp2_with fail
 refine(pI _ HR.out.bj).mono ?_;rintro e w' ⟨rfl,rfl⟩;go_wp2;go_ret;exact⟨ii,Ap⟩):P:=h
theorem cb1(h:P:=by
 have hg:g<gs.length:=um hx;intro d o ho;by_cases hd:d=c
 .subst hd;rw[nH (um hc)]at ho
  cases ho;refine⟨by omega,by simp;omega,λj y hy=>?_⟩;rcases cX hx hy with⟨rfl,rfl⟩|⟨e,hy⟩
  .rw[he];simp
  rw[(h d _ hc).2.2 j y hy];omega
 rw[oA (dE hd)]at ho;obtain⟨h1,h2,h3⟩:=h d o ho;grind):P:=h
theorem cb2(h:P:=by go_wp2;refine aV4 ii ii (aw1 (kL.heap b9 HX) _ _) aR1 ?_;exact⟨Vl,Jf,BT,JK,M2,false,ii,λW h=>(HK W (Ob.of hF.1 (((Kept.up (w3:=W9) h (W1:=W5) (by have:=xW.out;omega) a5.size)).back l9))).mono λj _ hj=>hj.elim (·.2) λhj=>HP j hj.1,λh=>(by cases h),aU9 a9 (by omega) _ _⟩):P:=h
theorem cb3(h:P:=by go_wp2_with (first|(at_builtin;refine gO ii (.const ()) (.tmp 109) 28 rfl underlying28 hi ii _ _ ii ?_)|(go_at_call 159;refine(IB (af:=af) (F:=F) (w0:=w) (m0:=m) ?_ HM2).mono ?_;exact⟨_,vV.out.aI⟩;rintro e w5 ⟨rfl,A6⟩;have Wf:=ag A6;clear A6));go_ret;exact⟨ii,Wf⟩):P:=h
theorem cb4(h:P:=by rintro e w' ⟨b,g,q,cur,yy,rfl,f1,f2,f3,f4,f5,f6,f7,f8,f9,f10,f11,f12⟩;exact⟨b,g,q,ii,H.Y8 f12 _ _ _ _ _ _ _ _ _ _ _ _ f6 (fF f1 ii (λp h=>by simp[eI]at h)) f7 (fF f2 f3 (λp h=>by simp[eI]at h)) f8 (fF f4 f5 (λp h=>by simp[eI]at h)) ⟨f9,f10,f11⟩⟩):P:=h
theorem cb5(h:P:=by
 rcases hk with hk|hk
 .exact hk
 rw[hk]at pM;rcases h with h|h|h<;>rw[h]at pM<;>simp[bG]at pM):P:=h
theorem cb6(h:P:=by simp only[Wd.ay,my]at J ⊢;exact⟨J.same ii ii ii ii ii ii ii ii,dW hx ii,ii,ii,by simp only;omega,ii,rx _⟩):P:=h
theorem cb7(h:P:=by
 rw[hf _ (by simp) (by simp) (by simp) (by simp)];simp only[aj,zd]
 cases ev[g]?<;>rfl):P:=h
theorem cb8(h:P:=by
 obtain⟨h',_⟩|⟨g',cap,cur,h',hb,hg,JU,hcm,fa,ht⟩:=h.2
 .simp at h'
 simp[as9,Addr.mk.injEq,at6,true_and]at h';let⟨rfl,rfl⟩:=h';rw[hg];have:cur.toList=xs:=by rw[<-ht,yl (by simp[fa])]
 rw[<-this]):P:=h
theorem cb9(h:P:=by go_wp2;all_goals exact⟨⟨j+1,k,ii,by have:=HN.out;unfold bq7 at this;rw[aE (by omega)]at this;exact HK.out.trans (by omega),by omega,by omega,by go_num,b2⟩,by simp[intOf];omega⟩):P:=h
theorem cc1(h:P:=by simp only[iF,cM,D3,bW,Option.bind_none,bH8,cI,reduceCtorEq,and_false,exists_false,ite_self]at hn):P:=h
theorem cc2(h:P:=by
 split
 .exact h
 rename_i e;obtain⟨h1,h2,h3,h4,h5⟩:=h;have cM:r.pl0≠[]:=by intro h0;rw[h0]at h4;simp at h4;omega
 have:=UN ⟨h1,h2,h3,h4,h5⟩ cM 1;constructor<;>simp<;>omega):P:=h
theorem cc4(h:P:=by go_wp2;go_meet;exact⟨_,ii,kb _,by first|(intro h;cases h;done)|(intro h;simp_all;done)⟩):P:=h
theorem cc5(h:P:=by show(match l[j]? with|some o=>bT fT 0 o.cases|none=>[])=_;rw[ho]):P:=h
theorem cc6(h:P:=by rw[qK kt]at h;cases h;exact aH3 I J hx _ 9 16 (e4:=hr) (tl:=by exact λ_=> .inr (aY7 (by show(aP x).ai≠1/\(aP x).ai≠6;omega) λd hl=>bx8 J hx hp (by omega) hl))):P:=h
theorem cc7(h:P:=by
 have e1:r'≠r:=λe=>by rw[e,ub]at mC;cases mC
 rw[aD e1]at mC ⊢;exact H.none_ r' mC):P:=h
theorem cc8(h:P:=by
 simp only[aj,zd]
 cases hg:p[g]? with
 |none=>rfl
 |some l=>rfl):P:=h
theorem cc9(h:P:=by
 intro r' mC
 cases r'<;>first|exact aX ii mC|rfl|(simp[aj])):P:=h
theorem cd0(h:P:=by go_enter func149,ntmps149;go_wp2;go_ret2;exact⟨ii,ii⟩):P:=h
theorem cd1(h:P:=by refine iZ (f:=gk m) (k:=25) (λ_ _=>rfl) S.gs 0 j 23 x _ _ hx (by omega) (λn z hn=>nj m (.inr (.inr (.inr rfl))) (by omega)) ?_;simp[gk,Mem.cU,Mem.eG,ru]):P:=h
theorem cd2(h:P:=by refine iZ (f:=gk m) (k:=25) (λ_ _=>rfl) S.gs 0 j 22 x _ _ hx (by omega) (λn z hn=>nj m (.inr (.inr (.inl rfl))) (by omega)) ?_;simp[gk,Mem.cU,Mem.eG,ru]):P:=h
theorem cd3(h:P:=by
 apply FE (C:=w.au.length) hk;have e1:bC x=x.k.toNat:=by simp[bC,hp]
 rw[e1];have:x.k.toNat=(x.k-1).toNat+1:=by omega
 rw[this];exact(qj (by omega)).2 (.inr hl)):P:=h
theorem cd4(h:P:=by simpa only[mK,hd,Ar,bI5,Bool.true_and,bI6,nW,dF,dt]using h):P:=h
theorem cd5(h:P:=by unfold bR;go_enter func163,ntmps163;go_wp2_with (first|(go_at_call 162;refine HS.out.mono ?_;rintro e w1 ⟨rfl,rfl⟩)|go_in);go_end0;exact⟨ii,HA⟩):P:=h
theorem cd6(h:P:=by refine iZ (f:=gk m) (k:=25) (λ_ _=>rfl) S.gs 0 j 21 x _ _ hx (by omega) (λn z hn=>nj m (.inr (.inl rfl)) (by omega)) ?_;simp[gk,Mem.cU,Mem.eG,ru]):P:=h
theorem cd7(h:P:=by exact r9 (w.dZ (c.ch-1).toNat r.get.1) ii ii ii (aP2 _) ii ii ii ii ii (by simp[Wd.dZ]) _ _ (by simp) ii (λ_=> .inr (by rw[Ar];exact RT)) h):P:=h
theorem cd8(h:P:=by
 rcases h9 with⟨a,b,c⟩|⟨a,_⟩
 .exact⟨.inl ⟨a,b⟩,c⟩
 exact aX a jA):P:=h
theorem cd9(h:P:=by refine iZ (f:=gk m) (k:=25) (λ_ _=>rfl) S.gs 0 j 20 x _ _ hx (by omega) (λn z hn=>nj m (.inl rfl) (by omega)) ?_;simp[gk,Mem.cU,Mem.eG,ru]):P:=h
theorem ce0(h:P:=by
 intro c;unfold aL;rw[e,aF hk,aF hk];have e1:bC x=x.aq.length:=by simp[bC,hp]
 have e2:bC {x with k:=x.k+1}=x.aq.length:=by simp[bC,hp]
 rw[e1,e2]):P:=h
theorem ce1(h:P:=by
 refine h.fU λa v hv=>?_
 rw[hb.cell (by have:=ba0 w a hv;omega)];exact hv):P:=h
theorem ce2(h:P:=by
 rcases b5 with⟨_,_,h,_⟩|⟨h,_⟩
 .omega
 exact h):P:=h
theorem ce3(h:P:=by
 clear g5;go_wp2
 all_goals first
  |(exfalso;omega)
  |(go_roundw
    case rel=>exact⟨k+1,by go_num,by omega,nx,tK⟩
    simp[intOf];omega)):P:=h
theorem ce4(h:P:=by
 unfold ik;simp only[Ht,mC,d2,aH6,dF,bW,eN];by_cases h0:r.room=0
 .simp_all
 rw[aE h0];exact⟨_,_,ii,.inr ⟨_,_,Ring.Kg ok _,ii⟩⟩):P:=h
theorem ce5(h:P:=by simp at fa;exact⟨_,_,_,fa,[],ii,by simp,λj o hj=>by simp at hj⟩):P:=h
theorem ce6(h:P:=by exact pw R g x hx ui o ho dj hk S' e (by simp[h])):P:=h
theorem ce7(h:P:=by go_enter func150,ntmps150;go_wp2_with (go_at_call 206;refine Ry.out.mono ?_;rintro e w' ⟨rfl,rfl⟩);go_ret;exact⟨ii,HR⟩):P:=h
theorem ce8(h:P:=by go_wp2;refine UV (ad8 ii _ _ _) ii ?_;exact⟨ii,HA.out.aI⟩):P:=h
theorem ce9(h:P:=by go_region;go_wp2;exact FIN ⟨1,-1,0,true,0⟩ CN ii ii ii (.still λs c h=>by rw[HN.out]at h;cases h) (.inr rfl)):P:=h
theorem cf0(h:P:=by go_wp2;exact⟨⟨k,j+1,m0,by omega,ii,by omega,by go_num,b2,kL.heap L2 H0,kL.heap L2 H1⟩,by simp[intOf];omega⟩):P:=h
theorem cf1(h:P:=by go_end0;exact⟨ii,_,HZ.out.less λp hp=>nO _ (nO _ hp)⟩):P:=h
theorem cf2(h:P:=by obtain⟨m1,m2,m3⟩:=M.s5b L (by omega) hp;exact⟨_,aX9 hx 6,I.ku hx hs m1 ⟨by simp,by simp⟩ m2 m3 ii⟩):P:=h
theorem cf3(h:P:=by refine⟨?_,hR⟩;unfold mf;rw[qd hx];have:=hR.ch;have:=hR.cl;rw[aF ⟨by unfold kJ;simp;omega,by omega⟩]):P:=h
theorem cf4(h:P:=by refine ak0.2 (s1.BD.imp_of_mem λ{a b} ha hb hab e=>?_);have:=(s1.lk a ha).1;have:=(s1.lk b hb).1;omega):P:=h
theorem cf5(h:P:=by rw[aD e1]at h1;rw[aD e2]at h2;exact H.inj r1 r2 b' h1 h2):P:=h
theorem cf6(h:P:=by
 cases hl:C.getLast? with
 |none=>have:=az5.1 hl;rw[this]at AO;simp at AO;omega
 |some y=>exact⟨y,ii⟩):P:=h
theorem cf7(h:P:=by exact⟨_,ii,I.XK hx hs m1 ⟨by simp[hp],by simp[hp]⟩ m2 IF (λd=>(m3 d).trans rel) ii h1⟩):P:=h
theorem cf8(h:P:=by
 go_wp2;go_roundw
 case rel=>exact⟨_,k+1,m,ii,by omega,by omega,by go_num,VR⟩
 simp[intOf];omega):P:=h
theorem cf9(h:P:=by exact bk5 g s x' E.me h2 (λh=>pk' (.inl h)) (T.in9 a b j i s c d e) (bb9 I hx (.inr ⟨_,e⟩))):P:=h
theorem cg0(h:P:=by
 clear hN HN;go_wp2;go_roundw
 case rel=>exact⟨j+1,by go_num,by omega,KG,HD2⟩
 simp[intOf];omega):P:=h
theorem cg1(h:P:=by rw[cY];show(((({w with ef:=q'}:Wd).cJ s {sd with done:=false}).ay z _).ay z _).ay g _=_;rw[cY]):P:=h
theorem cg2(h:P:=by exact⟨_,ii,I.XK hx hs m1 ⟨by simp,by simp⟩ m2 IF (λd=>(m3 d).trans rel) ii h1⟩):P:=h
theorem cg3(h:P:=by exact pw R g x hx ui o ho dj ii S' e (by simp[h])):P:=h
theorem cg4(h:P:=by obtain⟨j,a,b⟩:=sF l (i+1) g h;exact⟨j+1,by rw[a];congr 1;omega,by simpa using b⟩):P:=h
theorem cg5(h:P:=by
 intro r' mC
 cases r'<;>first|exact aX ii mC|rfl):P:=h
theorem cg6(h:P:=by simp only at hq;by_cases U5:q=i;all_goals grind):P:=h
theorem cg7(h:P:=by obtain⟨_,hl⟩:=bR1;exact⟨_,0,ii,λj u hu=>by rw[wl];exact hl.cell j u hu⟩):P:=h
theorem cg8(h:P:=by rw[<-hx];have:=bP2;rw[rO (λ_=>Value.slice none 0 0)]at this;simpa using this):P:=h
theorem cg9(h:P:=by go_wp2;all_goals exact⟨⟨j+1,by omega,by go_num,b2⟩,by simp[intOf];omega⟩):P:=h
theorem ch0(h:P:=by
 refine⟨?_,?_,HL.out.below⟩
 .rw[e];exact HL.out.val
 rw[e];exact HL.out.len):P:=h
theorem ch1(h:P:=by refine⟨?_,(X.loc p (nO _ h)).2⟩;rw[fQ (hL p h)];exact(X.loc p (nO _ h)).1):P:=h
theorem ch2(h:P:=by intro y hy;obtain⟨z,hz,rfl⟩:=ak3.1 hy;have:=s1.lk z hz;have:=I.c8;omega):P:=h
theorem ch3(h:P:=by
 go_roundw
 case rel=>exact⟨j+1,by go_num,by omega,HP4⟩
 simp[intOf];omega):P:=h
theorem ch4(h:P:=by rw[cY]at h;cases h;exact aI0 I J hx hp ks {bu x with call:=w.av,ae:=4} 4):P:=h
theorem ch5(h:P:=by
 go_wp2
 all_goals
  go_ret;refine⟨?_,ii⟩;unfold nK;simp_all;try omega):P:=h
theorem ch6(h:P:=by unfold bR;go_enter func159,ntmps159;go_wp2;go_end0;exact⟨ii,A.out⟩):P:=h
theorem ch7(h:P:=by go_enter func215,ntmps215;go_wp2;go_ret;exact⟨by rw[H.out];rfl,ii⟩):P:=h
theorem ch8(h:P:=by go_end0;exact⟨ii,Hb.out.at_.eq aA⟩):P:=h
theorem ch9(h:P:=by go_end0;exact⟨ii,FO.out.at_.eq aA⟩):P:=h
theorem ci0(h:P:=by go_end0;exact⟨ii,_,HW.out.less λp hp=>nO _ (nO _ (nO _ hp))⟩):P:=h
theorem ci1(h:P:=by
 obtain⟨l1,l2,l3,l4,l5,l6,l7,l8,l9,kN,kO,kP,kQ,kR,mT,mU,kS,mV,kT,kY,mW,kU,kV,kW⟩:=L;refine⟨?_,?_⟩
 .exact bZ2
 grind [aL,cH]):P:=h
theorem ci2(h:P:=by obtain⟨l1,l2,l3,l4,l5,l6,l7,l8,l9,kN,kO,kP,kQ,kR,mT,mU,kS,mV,kT,kY,mW,kU,kV,kW⟩:=L;clear l8 fX;refine⟨?_,dJ⟩;clear dJ s1 s3 s2;exact bZ2):P:=h
theorem ci3(h:P:=by
 obtain⟨l1,l2,l3,l4,l5,l6,l7,l8,l9,kN,kO,kP,kQ,kR,mT,mU,kS,mV,kT,kY,mW,kU,kV,kW⟩:=L;clear l8 fX;refine⟨?_,?_,dJ⟩
 .clear l1 l2 l3 l4 l5 l6 l7 l9 kN kO kP kQ kR kS kT kY kU kV kW nL dJ s1 s3;exact bZ4
 clear dJ s1 s3 s2;exact bZ2):P:=h
theorem ci4(h:P:=by clear l1 l2 l3 l4 l5 l6 l7 l9 kN kO kP kQ kR kS kT kY kU kV kW nL dJ s1 s3;exact bZ4):P:=h
theorem ci5(h:P:=by refine hK _ _ ?_;clear hK K;refine aj1 (rs:=[6]) (by kernel_rfl) (by simp) (ae7 ii (λK hK=>?_) ag6);exact bZ1):P:=h
theorem ci6(h:P:=by
 obtain h1|⟨h0,h1⟩:=h1
 .exact bZ9
 have:decide (g<(S.ax.length:Int))=false:=by simpa using h1
 exact bZ9):P:=h
theorem ci7(h:P:=by
 go_wp2_with fail
 refine(pI _ HR.out.bj).mono ?_;rintro e w' ⟨rfl,rfl⟩;exact ca7):P:=h
theorem oX(h:P:=by omega):P:=h
theorem sX(h:P:=by simp):P:=h
theorem kX(h:P:=by kernel_rfl):P:=h
theorem dX(h:P:=by decide):P:=h
theorem ci8(h:P:=by simp;omega):P:=h
theorem ci9(h:P:=by simp only;omega):P:=h
theorem cj0(h:P:=by simp[Value.oneCell']):P:=h
theorem cj1(h:P:=by rw[hk];rfl):P:=h
theorem cj2(h:P:=by simp[intOf];omega):P:=h
theorem cj3(h:P:=by refine(?_:Bx W1 bx V _).1;repeat(first|with_reducible exact z9|with_reducible exact zb|with_reducible exact za|with_reducible exact z0|with_reducible refine Bx.drew ?_|with_reducible refine Bx.alloc ?_ _)):P:=h
theorem cj4(h:P:=by simp[*]):P:=h
theorem cj5(h:P:=by simp at h):P:=h
theorem cj6(h:P:=by rw[HG.out.size];exact cQ.2):P:=h
theorem cj7(h:P:=by unfold maxLen;omega):P:=h
theorem cj8(h:P:=by go_num):P:=h
theorem cj9(h:P:=by decide+kernel):P:=h
theorem ck0(h:P:=by simpa using h):P:=h
theorem ck1(h:P:=by simp only at h;omega):P:=h
theorem ck2(h:P:=by simp[Act.eval,Act.put]):P:=h
theorem ck3(h:P:=by cases h):P:=h
theorem ck4(h:P:=by intro q hq;simp[eI]at hq;exact hq.symm):P:=h
theorem ck5(h:P:=by unfold bm at h;omega):P:=h
theorem ck6(h:P:=by repeat(first|with_reducible exact kb _|with_reducible exact L1|with_reducible exact y4|with_reducible exact y3|with_reducible exact y2|with_reducible exact y1|with_reducible refine m8 ?_|with_reducible refine ah9 ?_ _)):P:=h
theorem ck7(h:P:=by rw[s1];omega):P:=h
theorem ck8(h:P:=by unfold aT at h;omega):P:=h
theorem ck9(h:P:=by unfold aT at h;simp only at h;omega):P:=h
theorem cl0(h:P:=by simp only[pQ];omega):P:=h
theorem cl1(h:P:=by rw[gG];omega):P:=h
theorem cl2(h:P:=by repeat(first|with_reducible exact kb _|with_reducible exact L1|with_reducible exact y4|with_reducible exact y3|with_reducible exact y2|with_reducible refine m8 ?_|with_reducible refine ah9 ?_ _)):P:=h
theorem cl3(h:P:=by repeat(first|with_reducible exact kb _|with_reducible exact L1|with_reducible exact y4|with_reducible exact y3|with_reducible exact y1|with_reducible refine m8 ?_|with_reducible refine ah9 ?_ _)):P:=h
theorem cl4(h:P:=by repeat(first|with_reducible exact kb _|with_reducible exact L1|with_reducible exact y4|with_reducible exact y2|with_reducible exact y1|with_reducible refine m8 ?_|with_reducible refine ah9 ?_ _)):P:=h
theorem cl5(h:P:=by repeat(first|with_reducible exact kb _|with_reducible exact L1|with_reducible exact y3|with_reducible exact y2|with_reducible exact y1|with_reducible refine m8 ?_|with_reducible refine ah9 ?_ _)):P:=h
theorem cl6(h:P:=by rw[<-hP];exact(HQ.out.trans (iR.below HL)).trans (iR.set HBR.out.1)):P:=h
theorem cl7(h:P:=by unfold dU;rw[jA,eR];exact hi):P:=h
theorem cl8(h:P:=by simp[bC,hp]):P:=h
theorem cl9(h:P:=by unfold bm at h;simp at h):P:=h
theorem cm0(h:P:=by intro k hk;cases hk):P:=h
theorem cm1(h:P:=by rw[hA.1];omega):P:=h
theorem cm2(h:P:=by repeat(first|with_reducible exact kb _|with_reducible exact z5|with_reducible exact z6|with_reducible exact z7|with_reducible exact z8|with_reducible refine m8 ?_)):P:=h
theorem cm3(h:P:=by repeat(first|with_reducible exact kb _|with_reducible exact z4|with_reducible exact z6|with_reducible exact z7|with_reducible exact z8|with_reducible refine m8 ?_)):P:=h
theorem cm4(h:P:=by repeat(first|with_reducible exact kb _|with_reducible exact z4|with_reducible exact z5|with_reducible exact z7|with_reducible exact z8|with_reducible refine m8 ?_)):P:=h
theorem cm5(h:P:=by repeat(first|with_reducible exact kb _|with_reducible exact z4|with_reducible exact z5|with_reducible exact z6|with_reducible exact z8|with_reducible refine m8 ?_)):P:=h
theorem cm6(h:P:=by repeat(first|with_reducible exact kb _|with_reducible exact z4|with_reducible exact z5|with_reducible exact z6|with_reducible exact z7|with_reducible refine m8 ?_)):P:=h
theorem cm7(h:P:=by unfold pW;decide):P:=h
theorem cm8(h:P:=by unfold aT at h;simp at h):P:=h
theorem cm9(h:P:=by simpa using h1):P:=h
theorem cn0(h:P:=by rw[s2];omega):P:=h
theorem cn1(h:P:=by simp[Region.wanted,nX]):P:=h
theorem cn2(h:P:=by simp[er.fJ,er.fe]):P:=h
theorem cn3(h:P:=by show(w.gs.set z _)[g]?=_;rw[gd (dE d4)];exact hx):P:=h
theorem cn4(h:P:=by rw[<-HN.out];exact dD):P:=h
theorem cn5(h:P:=by simp only[hp]at h;omega):P:=h
theorem cn6(h:P:=by rw[HP.out];decide):P:=h
theorem cn7(h:P:=by show(w.gs.set z _)[g]?=_;rw[gd (dE mh)];exact hx):P:=h
theorem cn8(h:P:=by rw[<-Hn.out];exact dD):P:=h
theorem cn9(h:P:=by simpa using hk):P:=h
theorem co0(h:P:=by rfl):P:=h
theorem co1(h:P:=by rw[HG.out.size];rfl):P:=h
theorem co2(h:P:=by unfold kJ;simp;omega):P:=h
theorem co3(h:P:=by simp[World.setCell]):P:=h
theorem co4(h:P:=by rintro rfl;rw[hx]at b4;cases b4;exact tR sd b6):P:=h
theorem co5(h:P:=by simp[jQ]at h):P:=h
theorem co6(h:P:=by unfold aw0;omega):P:=h
theorem co7(h:P:=by unfold aT;simp only;omega):P:=h
theorem co8(h:P:=by rw[<-HM.out];exact rT):P:=h
theorem co9(h:P:=by rw[e];simp):P:=h
theorem cp0(h:P:=by unfold aw0 aW;omega):P:=h
theorem cp1(h:P:=by show(aP x).ai≠9;omega):P:=h
theorem cp2(h:P:=by grind):P:=h
theorem cp3(h:P:=by repeat(first|with_reducible exact yb|with_reducible exact ya|with_reducible exact kb _|with_reducible refine m8 ?_)):P:=h
theorem cp4(h:P:=by repeat(first|with_reducible exact kb _|with_reducible exact z7|with_reducible exact z8|with_reducible refine m8 ?_)):P:=h
theorem cp5(h:P:=by repeat(first|with_reducible exact kb _|with_reducible exact z7|with_reducible exact z6|with_reducible refine m8 ?_)):P:=h
theorem cp6(h:P:=by repeat(first|with_reducible exact kb _|with_reducible exact z6|with_reducible exact z8|with_reducible refine m8 ?_)):P:=h
theorem cp7(h:P:=by simp[eO]at hp;simp;omega):P:=h
theorem cp9(h:P:=by rw[hx]at hy;cases hy;exact td):P:=h
theorem cq0(h:P:=by rw[KX.out];exact cQ.2):P:=h
theorem cq1(h:P:=by simp[aj,hx]):P:=h
theorem cq2(h:P:=by intro u hu;simp at hu;subst hu;rfl):P:=h
theorem cq3(h:P:=by simpa using h0):P:=h
theorem cq4(h:P:=by simp only[pQ,Wd.ay,Mach.free];omega):P:=h
theorem cq5(h:P:=by rw[aG.aC];exact eM):P:=h
theorem cq6(h:P:=by have:=I.sj hx;omega):P:=h
theorem cq7(h:P:=by simp[eI]at h):P:=h
theorem cq8(h:P:=by show(aP x).ai≠1/\(aP x).ai≠6;omega):P:=h
theorem cq9(h:P:=by have:=xW.out;have:=Zg.size;omega):P:=h
theorem cr0(h:P:=by simp[aj,h]):P:=h
theorem cr1(h:P:=by simpa[World.setCell]using jO):P:=h
theorem cr2(h:P:=by rw[<-HM.out];exact dD):P:=h
theorem cr3(h:P:=by rw[HN.out]at h;cases h):P:=h
theorem cr4(h:P:=by subst hy;rfl):P:=h
theorem cr5(h:P:=by rw[<-s1];exact dP):P:=h
theorem cr6(h:P:=by rw[hl];simp only[ne_eq,oZ];exact and_congr ak1 (not_congr ⟨λh=>h.symm,λh=>h.symm⟩)):P:=h
theorem cr7(h:P:=by rw[show i+1+g=i+(g+1)by omega];exact hf):P:=h
theorem cr8(h:P:=by have:=J.stp;simp only;omega):P:=h
theorem cr9(h:P:=by rw[ON];exact eQ s):P:=h
theorem cs2(h:P:=by cases h;rfl):P:=h
theorem cs4(h:P:=by simp[Wd.ay]):P:=h
theorem cs8(h:P:=by rw[jk];exact(fp).alloc cG _):P:=h
theorem cs9(h:P:=by simp[aj]):P:=h
theorem ct0(h:P:=by intro q hq;simp[eI]at hq):P:=h
theorem ct1(h:P:=by simp[L]):P:=h
theorem ct2(h:P:=by simp only[pQ,Wd.ay];omega):P:=h
theorem ct3(h:P:=by show((w.gs.set z _).set z _)[g]?=_;rw[gd (dE mh),gd (dE mh)];exact hx):P:=h
theorem ct4(h:P:=by rw[cr xy];rfl):P:=h
theorem ct5(h:P:=by simpa using hj):P:=h
theorem ct6(h:P:=by rw[Mem.bN cM];exact hp):P:=h
theorem ct7(h:P:=by simp only[h];rfl):P:=h
theorem ct8(h:P:=by simpa using hl):P:=h
theorem ct9(h:P:=by subst hy;exact ak1):P:=h
theorem cu0(h:P:=by rw[show((((aP x).ch-1).toNat:Int)+1)=(aP x).ch by omega];exact hh):P:=h
theorem cu1(h:P:=by repeat(first|with_reducible exact l3|with_reducible refine m8 ?_)):P:=h
theorem cu2(h:P:=by simpa using k1):P:=h
theorem cu3(h:P:=by simp[V.Xq,HC.out, *]):P:=h
theorem cu4(h:P:=by rw[h];simp):P:=h
theorem cu5(h:P:=by rw[Ci];exact X.GC):P:=h
theorem uX(h:P:=by assumption):P:=h
theorem cu6(h:P:=by have h:Xq (aP x) x.fire=some d:=h.2.2.1;unfold Xq at h;grind):P:=h
theorem cu7(h:P:=by apply di (x:=x);show(w.gs.set z _)[g]?=_;rw[gd (dE t6)];exact hx):P:=h
theorem cu8(h:P:=by unfold mI at hr;simp at hr;omega):P:=h
theorem cu9(h:P:=by exact aA4):P:=h
theorem cv0(h:P:=by simp only[kI];rw[e];exact sl):P:=h
theorem cv1(h:P:=by rw[cr Uh];rfl):P:=h
theorem cv2(h:P:=by show _=bg4 bl (j+1);unfold bg4;rw[HU.out];simpa using HK.out):P:=h
theorem cv3(h:P:=by rw[Sq.out.1];omega):P:=h
theorem cv4(h:P:=by have:=vD.out;omega):P:=h
theorem cv5(h:P:=by have:=Ve.out;omega):P:=h
theorem cv6(h:P:=by simpa[World.setCell]using H.tL):P:=h
theorem cv7(h:P:=by simp[gV,yP,ru,Value.oneCell']):P:=h
theorem cv8(h:P:=by rw[show(((c.ch-1).toNat:Int)+1)=c.ch by omega];exact hh):P:=h
theorem cv9(h:P:=by show((w.gs.set z _).set g _)[z]?=_;rw[gd mh];exact di _ b4):P:=h
theorem cw0(h:P:=by simpa[eO]using hc):P:=h
theorem cw1(h:P:=by simpa using dD):P:=h
theorem cw2(h:P:=by simp[er.fe,er.fJ]):P:=h
theorem cw3(h:P:=by simp[Wd.dZ]):P:=h
theorem cw4(h:P:=by show(W.gs.set z _)[g]?=_;rw[gd (dE d4),zd.1];exact hx):P:=h
theorem cw5(h:P:=by rw[eg];exact hk):P:=h
theorem cw6(h:P:=by show(W.gs.set z _)[g]?=_;rw[gd (dE d4),f1];exact hx):P:=h
theorem cw7(h:P:=by simp only[aj,hx]):P:=h
theorem cw8(h:P:=by simpa using h4):P:=h
theorem cw9(h:P:=by exact ii):P:=h
theorem cx0(h:P:=by simp[World.setCell];omega):P:=h
theorem cx1(h:P:=by unfold maxLen at hm;omega):P:=h
theorem cx2(h:P:=by rw[tB]at fX;exact fX.2.2 y hy y (by simp[uO]) ii):P:=h
theorem cx3(h:P:=by rw[hv];exact aR3 o i W x cx (HO.Ur (hF.trans hW))):P:=h
theorem cx4(h:P:=by rw[hn];exact h1.1):P:=h
theorem cx5(h:P:=by rw[e]):P:=h
theorem cx6(h:P:=by rw[a1];exact eQ s):P:=h
theorem cx7(h:P:=by rw[jX oX];omega):P:=h
theorem cx8(h:P:=by unfold aL cH;rw[aE oX];exact⟨oX,ii⟩):P:=h
theorem cx9(h:P:=by have h0:=(s1.ord v (lf hq)).1;refine⟨h0,λe=>Ky ?_⟩;have e2:v=(i:Int):=oX;rw[e2]at hq;exact(aA8 (um hq) Dx).1 (hq.trans hi.symm)):P:=h
theorem cy0(h:P:=by unfold idx;rw[aF oX,oU];exact hv):P:=h
theorem cy1(h:P:=by intro c;unfold aL;rw[e,aF hk,aF hk];have e1:bC x=x.aq.length:=cl8;have e2:bC y=x.aq.length:=(by subst hy;simp[bC,hp]);have pJ:y.aq=x.aq:=cr4;rw[e1,e2,pJ]):P:=h
theorem cy3(h:P:=by rw[((aJ6 cp1).1 h).2];exact λh'=>hc ((aT8 I hm).2 h')):P:=h
theorem bJ1(h:P:=by exact bJ0 R1.ax7 (bJ0 (R1.lt R1.aB.gs) (bJ0 (R1.lt R1.aB.aQ) (bJ0 (R1.frozen R1.aB.gs (g*25+17)) (bJ0 (R1.frozen R1.aB.gs (g*25+18)) (bJ0 (R1.frozen R1.aB.gs (g*25+7)) (bJ0 (R1.g IS 17 _ ii) (bJ0 (R1.g IS 18 _ ii) (bJ0 (R1.g IS 2 _ ii) (bJ0 (R1.g IS 7 _ ii) (bJ0 (R1.lt R1.aB.ah) R1.eu))))))))))):P:=h
theorem bJ2(h:P:=by exact bJ0 (X.ne RN.aB.gs) (bJ0 (X.ne RN.aB.aQ) (bJ0 (RN.g (az HX) 5 _ ii) (bJ0 (RN.frozen RN.aB.gs (g*25+5)) (bJ0 (RN.g (az HX) 2 _ ii) (bJ0 RN.eu (bJ0 RN.dM (bJ0 (RN.lt RN.aB.gs) (bJ0 (RN.lt RN.aB.aQ) (bJ0 (RN.ne RN.aB.aQ RN.aB.gs) (RN.frozen RN.aB.gs (g*25+2)))))))))))):P:=h
theorem bJ3(h:P:=by exact bJ0 RN.dM (bJ0 (RN.g HG 2 _ ii) (bJ0 (RN.g HG 16 _ ii) (bJ0 (RN.g HG 17 _ ii) (bJ0 (RN.g HG 18 _ ii) (bJ0 (RN.g HG 19 _ ii) (bJ0 (RN.g HG 15 _ ii) (bJ0 (RN.g HG 12 _ ii) (bJ0 X.at_ (X.ne RN.aB.gs)))))))))):P:=h
theorem bJ4(h:P:=by exact bJ0 (RM.g oh 15 _ ii) (bJ0 (RM.frozen RM.aB.gs (g*25+15)) (bJ0 (RM.frozen RM.aB.gs (g*25+16)) (bJ0 (RM.frozen RM.aB.gs (g*25+17)) (bJ0 (RM.frozen RM.aB.gs (g*25+18)) (bJ0 (RM.frozen RM.aB.gs (g*25+19)) (bJ0 (RM.g oh 16 _ ii) (bJ0 (RM.g oh 17 _ ii) (bJ0 (RM.g oh 18 _ ii) (RM.g oh 19 _ ii)))))))))):P:=h
theorem bJ5(h:P:=by exact bJ0 n1.symm (bJ0 (RN.g jc 2 _ ii) (bJ0 (RN.g jc 12 _ ii) (bJ0 (RN.g jc 15 _ ii) (bJ0 (RN.g jc 16 _ ii) (bJ0 (RN.g jc 17 _ ii) (bJ0 (RN.g jc 18 _ ii) (RN.g jc 19 _ ii)))))))):P:=h
theorem bJ6(h:P:=by exact bJ0 vV.out.bj (bJ0 (R6.g pS 21 _ ii) (bJ0 (R6.frozen R6.aB.gs (g*25+21)) (bJ0 (R6.lt R6.aB.gs) (bJ0 (R6.lt R6.aB.aQ) (bJ0 (R6.g pS 2 _ ii) (R6.frozen R6.aB.gs (g*25+2)))))))):P:=h
theorem bJ7(h:P:=by exact bJ0 (RN.frozen mB k) (bJ0 (RN.ne mB RN.aB.gs) (bJ0 (RN.ne RN.aB.ah RN.aB.gs) (bJ0 (RN.ne RN.aB.ah RN.aB.aQ) (bJ0 (RN.ne mB RN.aB.aQ) (bJ0 (RN.ne mB RN.aB.ah) (RN.lt mB))))))):P:=h
theorem bJ8(h:P:=by exact bJ0 (RN.frozen RN.aB.ah (j*7)) (bJ0 (RN.frozen RN.aB.ah (j*7+1)) (bJ0 (RN.frozen RN.aB.ah (j*7+2)) (bJ0 (RN.frozen RN.aB.ah (j*7+3)) (bJ0 (RN.frozen RN.aB.ah (j*7+4)) (bJ0 (RN.frozen RN.aB.ah (j*7+5)) (RN.frozen RN.aB.ah (j*7+6)))))))):P:=h
theorem bJ9(h:P:=by exact bJ0 (RN.frozen RN.aB.gs (g*25+2)) (bJ0 (RN.frozen RN.aB.gs (g*25+15)) (bJ0 (RN.frozen RN.aB.gs (g*25+16)) (bJ0 (RN.frozen RN.aB.gs (g*25+17)) (bJ0 (RN.frozen RN.aB.gs (g*25+18)) (RN.frozen RN.aB.gs (g*25+19))))))):P:=h
theorem bK0(h:P:=by exact bJ0 (aM X.head 0) (bJ0 (aM X.head 1) (bJ0 (aM X.head 3) (bJ0 (aM X.head 4) (aM X.head 2))))):P:=h
theorem bK1(h:P:=by exact bJ0 (um hx) (bJ0 R.eu (bJ0 R.dR (bJ0 (R.g hx 9 _ ii) (R.g hx 2 _ ii))))):P:=h
theorem bK2(h:P:=by exact bJ0 R.nJ (bJ0 (R.frozen R.aB.aQ 2) (bJ0 (ag (gZ R g)) (bJ0 R.dM (R.lt R.aB.aQ))))):P:=h
theorem bK3(h:P:=by exact bJ0 (fW (o:=.cells #[I x] 3) bX c5 ii Ep) (bJ0 (fN (o:=.cells #[I x] 3) bX fcc oy ii RF) (bJ0 (fW (o:=.cells #[I x] 3) bX ch ii ZA) (fN (o:=.cells #[I x] 3) bX fh sQ ii ZA)))):P:=h
theorem bK4(h:P:=by exact bJ0 (um hx) (bJ0 R.eu (bJ0 R.dR R.ax7))):P:=h
theorem bK5(h:P:=by exact bJ0 (he.cell X) (bJ0 (he.ne X) (bJ0 (he.lt X) X.bj))):P:=h
theorem bK6(h:P:=by exact bJ0 (um hx) (bJ0 R.eu (ag (At.refl R)))):P:=h
theorem bK7(h:P:=by exact bJ0 (ag (X0.vn (iD o nb cc) (.cells #[I 0,I 0,I 0,B false,I 0] 44))) (bJ0 (ag (X0.Ql (iD o nb cc))) (ag X0.sizeLe))):P:=h
theorem bK8(h:P:=by exact bJ0 s1.Ei (bJ0 s1.ne s1.BD)):P:=h
theorem bK9(h:P:=by exact bJ0 R1.eu (bJ0 (R1.lt R1.aB.gs) (R1.lt R1.aB.aQ))):P:=h
theorem bL0(h:P:=by exact bJ0 (um hx) (bJ0 R.eu (R.g0 hx))):P:=h
theorem bL1(h:P:=by exact bJ0 (ag x) (bJ0 (x.cell (r:=.aH 0) (b:=w.heap.size) (cap:=0) (cs:=[I N,I most]) (j:=0) (by simp) ii) (x.cell (r:=.aH 0) (b:=w.heap.size) (cap:=0) (cs:=[I N,I most]) (j:=1) (by simp) ii))):P:=h
theorem bL2(h:P:=by exact bJ0 (ag (dO S0 S1)) (L0.trans L1)):P:=h
theorem bL3(h:P:=by exact bJ0 (ag aG) (ag (AB.oP (AB.iU R) (.cells #[B c.cF,I c.ch,I c.v] 52) (.cells #[I 0,I 0,I 0,B false,I 0] 44)))):P:=h
theorem bL4(h:P:=by exact bJ0 (bb5 hz (s:=x.av) (by omega)) (aZ0 pts x.av (i:=j+1) (j:=pts.length) (um hz))):P:=h
theorem bL5(h:P:=by exact bJ0 (fW (o:=.cells #[B false] 4) oQ e6 ii Jh) (fN (o:=.cells #[B false] 4) oQ fe6 l1 ii Jh)):P:=h
theorem bL6(h:P:=by exact aQ0.aX1 (ty:=eI r) nI hown):P:=h
theorem bL7(h:P:=by exact ag hx):P:=h
theorem bL8(h:P:=by exact run_append_nil (P:=P) w t o.type e i z ht hi hz ad 1 c [u] (by simp[hsize]) Bw (by omega) (by omega) (by omega)):P:=h
theorem bL9(h:P:=by exact R.shape (r:=.au) (n:=S.au.length) (by simp[aj])):P:=h
theorem bM0(h:P:=by exact R.shape (r:=.OK g) (n:=x.OK.length) (by simp[aj,hx])):P:=h
theorem bM1(h:P:=by exact um hx):P:=h
theorem bM2(h:P:=by exact R.ps hx 2 rfl):P:=h
theorem bM3(h:P:=by exact ag (At.refl R)):P:=h
theorem bM4(h:P:=by exact R.zQ R.aB.aQ R.aB.gs R.aB.ah):P:=h
theorem bM5(h:P:=by exact R.g hx 1 _ ii):P:=h
theorem bM6(h:P:=by exact R.g hx 2 _ ii):P:=h
theorem bM7(h:P:=by exact R.frozen R.aB.aC g):P:=h
theorem bM8(h:P:=by exact R.zQ R.aB.Eg R.aB.aC R.aB.bV):P:=h
theorem bM9(h:P:=by exact ag (BV (j:=j) (C:=C) hA HC AO xS hown (HF.out.C7 gb ii))):P:=h
theorem bN0(h:P:=by exact R.owns (r:=.cache g) (p:=(3,1)) ii (by decide) (n:=n) (by simp[aj,HC.out,HN.out])):P:=h
theorem bN1(h:P:=by exact aa0 (w:=w) (c1:=c1) (t1:=t1) (c2:=c2) (t2:=t2) ii):P:=h
theorem bN2(h:P:=by exact h2.cells (g:=g) ii j v hj):P:=h
theorem bN3(h:P:=by exact dC (o.cases.length)):P:=h
theorem bN4(h:P:=by exact HH.out.get (n:=7) hu):P:=h
theorem bN5(h:P:=by exact Z9 hW):P:=h
theorem bN6(h:P:=by exact hb.trans L2):P:=h
theorem bN7(h:P:=by exact L.trans l3):P:=h
theorem bN8(h:P:=by exact H5.shape):P:=h
theorem bN9(h:P:=by exact dC (x.ops.length)):P:=h
theorem bO0(h:P:=by exact Mem.CO (r:=.dQ) (n:=S.aq.length) R (by simp[aj];intro e;rw[e]at hj;simp at hj)):P:=h
theorem bO1(h:P:=by exact R3.frozen R3.aB.gs (g*25+2)):P:=h
theorem bO2(h:P:=by exact R.ps hx 9 rfl):P:=h
theorem bO3(h:P:=by exact ag (λW (R:bz af F W m S)=>gZ R g)):P:=h
theorem bO4(h:P:=by exact sP (b:=S.ax) (g:=g) (by omega)):P:=h
theorem bO5(h:P:=by exact dC (token S.ax (j:Int))):P:=h
theorem bO6(h:P:=by exact dC (r.pl0.length)):P:=h
theorem bO7(h:P:=by exact ag A1):P:=h
theorem bO8(h:P:=by exact R4.frozen R4.aB.gs (g*25+2)):P:=h
theorem bO9(h:P:=by exact R.lt R.aB.aQ):P:=h
theorem bP0(h:P:=by exact R2.frozen R2.aB.gs (g*25+2)):P:=h
theorem bP1(h:P:=by exact ag (λn=>Dc HX.out.bj o.ch n)):P:=h
theorem bP2(h:P:=by exact gz (f:=λ_ _=>[()]) (a:=()) (z:=#[()]) (λ_=>rfl) (by decide) n):P:=h
theorem bP3(h:P:=by exact gz (f:=λ_ x=>[B x]) (a:=false) (z:=#[B false]) (λ_=>rfl) (by decide) N):P:=h
theorem bP4(h:P:=by exact ag ((AB.iU R).alloc (iY F g o ca cn cc))):P:=h
theorem bP5(h:P:=by exact X.bj):P:=h
theorem bP6(h:P:=by exact jo X.head):P:=h
theorem bP7(h:P:=by exact ag X):P:=h
theorem bP8(h:P:=by exact X.ne RN.aB.gs):P:=h
theorem bP9(h:P:=by exact nb.symm):P:=h
theorem bQ0(h:P:=by exact RN.frozen RN.aB.gs (g*25+12)):P:=h
theorem bQ1(h:P:=by exact ag ((At.refl R).alloc (.cells #[I o.ai,I o.ch,I o.n,I o.v,(ca,cn,cc),B o.dG] 49))):P:=h
theorem bQ2(h:P:=by exact mX l out h1.2 h2 h3 (λa ha b hb=>h4 a ha b (nO _ hb))):P:=h
theorem bQ3(h:P:=by exact R.ps hx 24 rfl):P:=h
theorem bQ4(h:P:=by exact R.ps hx 12 rfl):P:=h
theorem bQ5(h:P:=by exact R.ps hx 15 rfl):P:=h
theorem bQ6(h:P:=by exact R.ps hx 16 rfl):P:=h
theorem bQ7(h:P:=by exact R.ps hx 17 rfl):P:=h
theorem bQ8(h:P:=by exact R.ps hx 18 rfl):P:=h
theorem bQ9(h:P:=by exact R.ps hx 19 rfl):P:=h
theorem bR0(h:P:=by exact (At.refl R).g HX {x with lQ:=S.av} (q:=12) (v:=I S.av)):P:=h
theorem bR1(h:P:=by exact aQ0.aX1 (ty:=none) (p:=(e,size)) (λq h=>by cases h) h):P:=h
theorem bR2(h:P:=by exact bs0 (w:=w) (c1:=c1) (t1:=t1) (c2:=c2) (t2:=t2) (c3:=c3) (t3:=t3) ii):P:=h
theorem bR3(h:P:=by exact A1.bj):P:=h
theorem bR4(h:P:=by exact R1.g HX 2 _ ii):P:=h
theorem bR5(h:P:=by exact R1.frozen R1.aB.gs (g*25+2)):P:=h
theorem bR6(h:P:=by exact jD X.head):P:=h
theorem bR7(h:P:=by exact RN.g HX 2 _ ii):P:=h
theorem bR8(h:P:=by exact RN.frozen RN.aB.gs (g*25+2)):P:=h
theorem bR9(h:P:=by exact RN.frozen RN.aB.gs (g*25+24)):P:=h
theorem bS0(h:P:=by exact R.shape (r:=.aH g) (n:=x.aH.length) (by simp[aj,hx])):P:=h
theorem bS1(h:P:=by exact dC (x.aH.length)):P:=h
theorem bS2(h:P:=by exact (At.refl R).g hx {x with k:=k+1} (q:=24) (v:=I (k+1))):P:=h
theorem bS3(h:P:=by exact qT X.head):P:=h
theorem bS4(h:P:=by exact RN.lt RN.aB.aQ):P:=h
theorem bS5(h:P:=by exact fP w (X0.loc _ fD).1 k c hc):P:=h
theorem bS6(h:P:=by exact ag (X0.alloc (iD o nb cc))):P:=h
theorem bS7(h:P:=by exact HY.out.xF (as3 xW) Zn (I r.aJ) (I r.case) (I r.v) (B r.ok) (I r.n)):P:=h
theorem bS8(h:P:=by exact al4 e (by simp)):P:=h
theorem bS9(h:P:=by exact I.q.drop (x:=s) (by omega) (by omega)):P:=h
theorem bT0(h:P:=by exact I.claim g x hx hc):P:=h
theorem bT1(h:P:=by exact L.oW hk (by omega) (by omega) (by omega) (by omega)):P:=h
theorem bT2(h:P:=by exact s2.2.2 (by omega)):P:=h
theorem bT3(h:P:=by exact s2.2.1 (by omega)):P:=h
theorem bT4(h:P:=by exact I.loc g x hx):P:=h
theorem bT5(h:P:=by exact gz I (L.cZ (by omega) (by omega) (by omega) (by omega) (by omega))):P:=h
theorem bT6(h:P:=by exact L.cZ (by omega) (by omega) (by omega) (by omega) (by omega)):P:=h
theorem bT7(h:P:=by exact I.rel hx hs m1 ⟨by simp,by simp⟩ m2 hc m3 ii hh):P:=h
theorem bT8(h:P:=by exact ag ((AB.iU R).alloc (.cells #[I o.ai,I o.ch,I o.n,I o.v,(ca,cn,cc),B o.dG] 49))):P:=h
theorem bT9(h:P:=by exact pz (L.br (.inl (.inl hp)))):P:=h
theorem bU0(h:P:=by exact RN.lt RN.aB.gs):P:=h
theorem bU1(h:P:=by exact oq I hx s1 kE):P:=h
theorem bU2(h:P:=by exact s3.all (by omega) i (lf h2)):P:=h
theorem bU3(h:P:=by exact L.Uy (by omega)):P:=h
theorem bU4(h:P:=by exact L.kp (by omega)):P:=h
theorem bU5(h:P:=by exact I.ku hx hs m1 ⟨by simp,by simp⟩ m2 m3 ii):P:=h
theorem bU6(h:P:=by exact R.lt R.aB.gs):P:=h
theorem bU7(h:P:=by exact A6.zI pS ii (ql Gl R5.eS) (λgg G4=>⟨R5.iT (pN Gl G4).1,by have:=(pN Gl G4).1;have:=Bm.out.2;omega⟩)):P:=h
theorem bU8(h:P:=by exact jD ((yD.block w.heap.size Bm.out.2).trans Bm.out.1)):P:=h
theorem bU9(h:P:=by exact R.heap (w':=w) (λ_ _ _=>rfl)):P:=h
theorem bV0(h:P:=by exact dm.shape jB):P:=h
theorem bV1(h:P:=by exact ag ((AB.qn A1).alloc (iD o ca cc))):P:=h
theorem bV2(h:P:=by exact X.g (az HX) {bu x with call:=S.av} (q:=5) (v:=I S.av)):P:=h
theorem bV3(h:P:=by exact RN.frozen RN.aB.gs (g*25+11)):P:=h
theorem bV4(h:P:=by exact A0.g HX {x with br:=s} (q:=9) (v:=I s)):P:=h
theorem bV5(h:P:=by exact ag ((Eo.out.alloc (.cells #[I 3,I 1,I 0,I 0,.slice none 0 0,B false] 49)).U7 (o:={ai:=3,ch:=1}) ii jE hown lN)):P:=h
theorem bV6(h:P:=by exact (H1.out.below HB cG).2 j (by rw[<-Hn.out];exact dD)):P:=h
theorem bV7(h:P:=by exact I.ZV hg eK {cK:=true,g:=g,ch:=c.ch,case:=i,cF:=c.cF,v:=c.v}):P:=h
theorem bV8(h:P:=by exact RB.owns (r:=.aO) (p:=(4,1)) ii (by decide) (n:=S.aO.length) (by simp[aj])):P:=h
theorem bV9(h:P:=by exact wG.out.av (((At.refl wG.out.bj).alloc (.cells #[B false] 4)).BP (l:=S.aO++[false]) oQ (by rw[hlc,al1];exact Gb) (by simpa using qU))):P:=h
theorem bW0(h:P:=by exact RN.ne RN.aB.aQ RN.aB.gs):P:=h
theorem bW1(h:P:=by exact Y1.g (az jc) {x with res:={aJ:=1,case:= -1,ok:=true,n:=n},lQ:=S.av} (q:=12) (v:=I S.av)):P:=h
theorem bW2(h:P:=by exact Y2.g (az (az jc)) {x with res:={aJ:=1,case:= -1,ok:=true,n:=n},lQ:=S.av,ae:=18} (q:=2) (v:=I 18)):P:=h
theorem bW3(h:P:=by exact L.oW h9 (by omega) (by omega) (by omega) (by omega)):P:=h
theorem bW4(h:P:=by exact (I.loc g x hx).cZ (by omega) (by omega) (by omega) (by omega) (by omega)):P:=h
theorem bW5(h:P:=by exact (aJ6 (by show(aP x).ai≠9;omega)).1 h):P:=h
theorem bW6(h:P:=by exact jW hx ho hp aG hm):P:=h
theorem bW7(h:P:=by exact ag ((AB.qn A1).oP (iD o ca cc) (iY F g o ca o.cases cc))):P:=h
theorem bW8(h:P:=by exact ag (A1.alloc (iD o ca cc))):P:=h
theorem bW9(h:P:=by exact ag (nO (w.heap.size,iD o nb cc) fD)):P:=h
theorem bX0(h:P:=by exact RN.shape (r:=.aH g) (n:=x.aH.length) (by simp[aj,oR.out])):P:=h
theorem bX1(h:P:=by exact KK.out wN (X.loc _ HM).1 k _ HC):P:=h
theorem bX2(h:P:=by exact (dh (X.loc _ HM).1).1):P:=h
theorem bX3(h:P:=by exact HY.out.av ((At.refl HY.out.bj).yg (k:=k) oR Bm j)):P:=h
theorem bX4(h:P:=by exact Y1.av ((At.refl Y1.bj).bz0 qH {cK:=true,g:=g,ch:=ch,case:=k,cF:=cs,v:=cv})):P:=h
theorem bX5(h:P:=by exact Y2.g (az oR) {x with bA:=x.bA.set k j,k:=kn+1} (q:=24) (v:=I (kn+1))):P:=h
theorem bX6(h:P:=by exact mr hx eE h1 hn jA hh):P:=h
theorem bX7(h:P:=by exact RN.shape (r:=.aH g) (n:=x.aH.length) (by simp[aj,jc.out])):P:=h
theorem bX8(h:P:=by exact HB.out.g jc {x with k:=kn+1} (q:=24) (v:=I (kn+1))):P:=h
theorem bX9(h:P:=by exact HZ.out.g jc {x with k:=kn+1} (q:=24) (v:=I (kn+1))):P:=h
theorem bY0(h:P:=by exact B1.g (jd eM) {x with bA:=x.bA.set k (-1),k:=kn+1} (q:=24) (v:=I (kn+1))):P:=h
theorem bY1(h:P:=by exact ag (λn=>((B2.drewN n).g (jd eM) {x with bA:=x.bA.set k (-1),k:=0} (q:=24) (v:=I 0)).Hg (jd (by rw[qp];exact eM)))):P:=h
theorem bY2(h:P:=by exact J.g2 g x hx):P:=h
theorem bY3(h:P:=by exact (I.loc g x hx).oW hk (by omega) (by omega) (by omega) (by omega)):P:=h
theorem bY4(h:P:=by exact ag (dO jl (dO kz bE))):P:=h
theorem bY5(h:P:=by exact E.yf j _ hj (fv (l:=w'.gs) (i:=j) (by omega))):P:=h
theorem bY6(h:P:=by exact ho.rd (by rw[<-G8.out];omega)):P:=h
theorem bY7(h:P:=by exact Ao.out _ X.out.below):P:=h
theorem bY8(h:P:=by exact (bv6.out.Ur ⟨HW4.out.1,λk _ hk=>by rw[hk];exact HW4.out.2⟩).get (n:=3) hy):P:=h
theorem bY9(h:P:=by exact bj4 HPK.out.1.sorted Z3 (by rw[<-HC.out];exact vz) (λj y hj hy=>HQ2.out.lo j k y _ hj cG hy Z3)):P:=h
end
abbrev bJ0:=@And.intro
theorem ag{P:Prop}(h:P):Go.RowKit.Hid P:=h
theorem dA{a b:Prop}(c:a)(d:b):Go.RowKit.Hid a/\Go.RowKit.Hid b:=⟨c,d⟩
theorem ij{a b c:Prop}(d:a)(e:b)(f:c):Go.RowKit.Hid a/\Go.RowKit.Hid b/\Go.RowKit.Hid c:=⟨d,e,f⟩
theorem ia{a b c d:Prop}(e:a)(f:b)(g:c)(h:d):Go.RowKit.Hid a/\Go.RowKit.Hid b/\Go.RowKit.Hid c/\Go.RowKit.Hid d:=⟨e,f,g,h⟩
theorem jW{a b c d e:Prop}(f:a)(g:b)(h:c)(i:d)(j:e):Go.RowKit.Hid a/\Go.RowKit.Hid b/\Go.RowKit.Hid c/\Go.RowKit.Hid d/\Go.RowKit.Hid e:=⟨f,g,h,i,j⟩
theorem mr{a b c d e f:Prop}(g:a)(h:b)(i:c)(j:d)(k:e)(l:f):Go.RowKit.Hid a/\Go.RowKit.Hid b/\Go.RowKit.Hid c/\Go.RowKit.Hid d/\Go.RowKit.Hid e/\Go.RowKit.Hid f:=⟨g,h,i,j,k,l⟩
abbrev dO:=@And.intro
abbrev fp{a}{b}:=Go.RowKit.Below.refl a b
abbrev ur:=@Array.getElem?_setIfInBounds_ne
abbrev oA:=@List.getElem?_set_ne
abbrev nW:=@Bool.false_eq_true
abbrev oZ:=@Option.some.injEq
abbrev oU:=@Int.toNat_natCast
abbrev rn:=@List.mem_cons_self
abbrev xL:=@Array.getElem?_eq_getElem
abbrev c9X:=@List.getD_eq_getElem?_getD
abbrev kZ:=@Go.World.cell?_of_block
abbrev nH:=@List.getElem?_set_self
abbrev kI:=@List.length_set
abbrev aH6:=@Bool.true_eq_false
abbrev na:=@List.getElem?_map
abbrev jX{a}:=Go.IntWalk.i64_in a
abbrev km:=@Option.map_some
abbrev ko:=@List.length_map
abbrev dE:=@Ne.symm
abbrev jm:=@Nat.le_trans
abbrev rq:=@List.getElem?_eq_none
abbrev aU7:=@List.length_append
abbrev mx:=@Option.some.inj
abbrev xn:=@List.eq_nil_of_length_eq_zero
abbrev sS:=@List.take_succ_cons
abbrev sU:=@List.drop_succ_cons
abbrev uA:=@List.getElem?_replicate
abbrev my:=@List.set_set
abbrev qs:=@Bool.and_eq_true
abbrev sV:=@List.length_cons
abbrev ba0:=@Go.World.block_lt_of_cell?
abbrev vE:=@List.length_replicate
abbrev sW:=@List.getElem?_set
abbrev uB:=@Nat.lt_of_lt_of_le
abbrev rC:=@List.drop_zero
abbrev xp:=@Go.World.frozen?_of_block
abbrev iL:=@List.mem_cons
abbrev aW1:=@List.take_zero
abbrev tB:=@List.nodup_append
abbrev tC:=@List.length_take
abbrev sY:=@List.cons_append
abbrev yl:=@List.take_of_length_le
abbrev ym:=@List.eq_nil_or_concat
abbrev yn:=@List.concat_eq_append
abbrev Ev:=@List.getElem?_append_left
abbrev Ew:=@List.getElem?_append_right
abbrev aE:=@if_neg
abbrev aF:=@if_pos
abbrev aX:=@absurd
abbrev dF:=@if_false
abbrev dt:=@if_true
abbrev cr{a}{b}{c}{d}{e}{f}:=cell_of_row a b c d e f
abbrev dP{a}{b}:=heap_alloc_new a b
abbrev iM(a)(b)(c){d}{e}:=frozen_of_row a b c d e
abbrev gf:=@Go.RowKit.Below.heap_alloc
abbrev fQ{a}{b}{c}{d}:=Go.RowKit.Below.heap_setCell a b c d
abbrev pz:=@Int.eq_ofNat_of_zero_le
abbrev pu:=@List.setIfInBounds_toArray
abbrev ms:=@Go.heap_setCell_same
abbrev qr:=@List.set_cons_succ
abbrev ro:=@List.set_cons_zero
abbrev rx:=@Nat.le_refl
abbrev wl:=@Nat.zero_add
abbrev wn:=@Nat.zero_le
abbrev ww:=@Classical.byContradiction
abbrev AC:=@Go.info_parts
abbrev lm:=@decide_eq_true_eq
abbrev UV:=@Go.bodyPost_ret
abbrev WF:=@Int.natCast_nonneg
abbrev WP:=@Go.wp_region_still_tail
abbrev ad8:=@Go.results_none
abbrev ad9:=@List.ext_getElem?
abbrev ae0:=@List.Sublist.refl
abbrev ae1:=@Int.le_refl
abbrev ae2:=@Go.wpList_plain
abbrev ae3:=@List.mem_iff_getElem?
abbrev ae4:=@List.mem_append
abbrev ae5:=@Go.RowKit.Below.refl
abbrev ae6:=@List.mem_singleton
abbrev ae7:=@Go.AllReady.cons
abbrev ae8:=@List.map_cons
abbrev ag5:=@Go.Calls.quiet_of_same
abbrev ag6:=@Go.AllReady.nil
abbrev ag7:=@Go.heap_alloc_new
abbrev ai9:=@Go.World.ownsRow_nil
abbrev aj0:=@Go.wpStill_nil
abbrev aj1:=@Go.wpAny_ready
abbrev aj2:=@Nat.add_assoc
abbrev aj3:=@List.take_length
abbrev aj4:=@Go.World.cell?_setCell_other
abbrev aj5:=@Nat.le_succ
abbrev aj6:=@List.length_nil
abbrev aj7:=@Int.emod_lt_of_pos
abbrev aj8:=@Nat.lt_or_ge
abbrev aj9:=@Go.Addr.add_lit
abbrev ak0:=@List.pairwise_map
abbrev ak1:=@Iff.rfl
abbrev ak2:=@Go.Result.andThen_ok
abbrev ak3:=@List.mem_map
abbrev ak4:=@List.not_mem_nil
abbrev ak5:=@List.getElem?_cons_zero
abbrev ak6:=@List.all_eq_true
abbrev ak7:=@List.pairwise_iff_getElem
abbrev ak8:=@List.getElem?_eq_none_iff
abbrev ak9:=@decide_eq_false
abbrev al0:=@List.nil_append
abbrev al1:=@List.map_append
abbrev al2:=@List.append_assoc
abbrev al3:=@List.getElem_of_mem
abbrev al4:=@List.append_inj'
abbrev al6:=@List.take_succ
abbrev al7:=@Go.cell_of_row
abbrev al8:=@List.append_of_mem
abbrev al9:=@Nat.succ_mul
abbrev ar3:=@Nat.min_eq_left
abbrev ar8:=@List.nodup_cons
abbrev ar9:=@List.length_filter_le
abbrev as0:=@List.cons.injEq
abbrev as1:=@Int.emod_nonneg
abbrev as2:=@not_false_eq_true
abbrev as3:=@Nat.le_succ_of_le
abbrev as4:=@List.take_add_one
abbrev as5:=@List.flatten_cons
abbrev as6:=@List.mem_append_left
abbrev as7:=@List.getElem?_mapIdx
abbrev as8:=@Go.wp_region_lit
abbrev as9:=@Go.Value.slice.injEq
abbrev at0:=@Nat.mul_le_mul
abbrev at1:=@List.mem_or_eq_of_mem_set
abbrev at2:=@List.getElem_mem
abbrev at3:=@List.map_eq_nil_iff
abbrev at4:=@Nat.le_of_eq
abbrev at5:=@List.map_nil
abbrev at6:=@and_true
abbrev at7:=@List.append_nil
abbrev at8:=@Nat.mul_one
abbrev at9:=@List.map_set
abbrev au0:=@List.getElem?_toArray
abbrev av1:=@Option.getD_some
abbrev aw7:=@List.map_toArray
abbrev aw9:=@Go.size_madeCells
abbrev ax5:=@Nat.one_pos
abbrev ax9:=@List.flatten_append
abbrev ay0:=@Go.toList_madeCells_one
abbrev ay2:=@Bool.or_eq_true
abbrev ay3:=@Go.Proofs.Mul64.wrapN
abbrev ay4:=@Option.toList_some
abbrev ay5:=@Nat.le_of_lt
abbrev ay6:=@Nat.eq_zero_or_pos
abbrev ay7:=@List.getElem?_drop
abbrev az3:=@Decidable.em
abbrev az4:=@decide_eq_true
abbrev az5:=@List.getLast?_eq_none_iff
abbrev az6:=@of_decide_eq_true
abbrev aA8:=@List.getElem?_inj
abbrev aB6:=@Go.run_underlying
abbrev aC5:=@or_false
abbrev aS3:=@Prod.mk.injEq
abbrev bd6:=@List.getLast?_singleton
abbrev bm3:=@List.getElem?_cons_succ
abbrev bD2:=@List.length_drop
abbrev bG9:=@Nat.sub_self
abbrev bH0:=@Nat.add_zero
abbrev bH1:=@List.take_append_drop
abbrev bH2:=@List.range_succ
abbrev bH3:=@List.mem_of_mem_erase
abbrev bH4:=@List.foldl_cons
abbrev bH5:=@Go.wpList_make_full
abbrev bH6:=@Go.World.cell?_spot
abbrev bH7:=@Array.getElem?_toList
abbrev bH8:=@Option.bind_fun_none
abbrev bH9:=@List.mem_of_mem_take
abbrev bI0:=@List.getLast?_append
abbrev bI1:=@List.dropLast_concat
abbrev bI2:=@List.mem_range
abbrev bI3:=@List.mapM_cons
abbrev bI4:=@Go.ints_oneCell
abbrev bI5:=@Bool.false_and
abbrev bI6:=@Bool.and_false
abbrev bI7:=@List.perm_iff_count
abbrev bI8:=@List.map_congr_left
abbrev bI9:=@List.getElem?_range
theorem dC{α:Sort _}(a:α):∃x,x=a:=⟨a,ii⟩
section
universe u v
variable{α:Type u}{β:Type v}
section
variable{l:List α}{i:Nat}{a:α}(h:l[i]?=a)
include h
theorem um:i<l.length:=(List.getElem?_eq_some_iff.1 h).1
theorem uC:∃h:i<l.length,l[i]=a:=List.getElem?_eq_some_iff.1 h
end
theorem dh{l:Array α}{i:Nat}{a:α}(h:l[i]?=a):∃h:i<l.size,l[i]=a:=Array.getElem?_eq_some_iff.1 h
theorem fv{l:List α}{i:Nat}(h:i<l.length):l[i]?=l[i]:=List.getElem?_eq_getElem h
theorem bW{α β:Type u}{a:Option α}{f:α->Option β}:bind a f=a.bind f:=rfl
theorem cI{b:β}{x:Option α}{f:α->Option β}:x.bind f=b↔∃a,x=some a/\f a=b:=Option.bind_eq_some_iff
theorem aH5{b:β}{x:Option α}{f:α->β}:x.map f=b↔∃a,x=some a/\f a=b:=Option.map_eq_some_iff
theorem eN(a:α)(f:α->Option β):(some a).bind f=f a:=rfl
theorem cG{n:Nat}:n<=n:=rx n
theorem pd{l:List α}(h:l≠[]):0<l.length:=List.length_pos_iff.2 h
theorem nO(y:α){a:α}{l:List α}(h:a∈l):a∈y::l:=List.mem_cons_of_mem y h
theorem lf{l:List α}{i:Nat}{a:α}(h:l[i]?=a):a∈l:=List.mem_of_getElem? h
end
namespace Mach
def idx{α:Type}(l:List α)(i:Int):Option α:=if 0<=i then l[i.toNat]? else none
def put{α:Type}(l:List α)(i:Int)(x:α):Option (List α):=if 0<=i/\i.toNat<l.length then some (l.set i.toNat x)else none
structure Case where
 cF:Bool
 ch:Int
 v:Int
 deriving DecidableEq,Repr
structure cu where
 ai:Int:=0
 ch:Int:=0
 n:Int:=0
 v:Int:=0
 cases:List Case:=[]
 dG:Bool:=false
 deriving DecidableEq,Repr
abbrev be:=List (List cu)
abbrev go:=List cu
structure nP where
 aJ:Int:=0
 case:Int:=0
 v:Int:=0
 ok:Bool:=false
 n:Int:=0
 deriving DecidableEq,Repr
structure fE where
 cK:Bool:=false
 g:Int:=0
 ch:Int:=0
 case:Int:=0
 cF:Bool:=false
 v:Int:=0
 done:Bool:=false
 deriving DecidableEq,Repr
structure bI where
 ops:go:=[]
 at_:Int:=0
 ae:Int:=0
 bU:Int:=0
 token:Bool:=false
 call:Int:=0
 aR:Bool:=false
 aN:Int:=0
 bY:Int:=0
 br:Int:=0
 t:Int:=0
 bJ:Int:=0
 lQ:Int:=0
 bF:Int:=0
 fire:Int:=0
 res:nP:={}
 aH:ce:=[]
 aq:ce:=[]
 bA:ce:=[]
 OK:ce:=[]
 k:Int:=0
 deriving DecidableEq,Repr
structure Ex where
 g:Int
 op:Int
 call:Int
 bJ:Int
 lQ:Int
 bF:Int
 fire:Int
 re:Int
 res:nP
 deriving DecidableEq,Repr
structure Ring where
 pl0:ce
 first:Int:=0
 count:Int:=0
 deriving DecidableEq,Repr
structure nf where
 pX:Int:= -1
 behind:Int:= -1
 ahead:Int:= -1
 deriving DecidableEq,Repr
structure Ct where
 first:Int:= -1
 last:Int:= -1
 count:Int:=0
 deriving DecidableEq,Repr
structure er where
 aS:List nf
 bM:List Ct
 deriving DecidableEq,Repr
structure fS where
 size:Int
 most:Int
 aC:List ce
 aK:ce
 cO:Int
 bV:List Bool
 deriving DecidableEq,Repr
structure Wd where
 dV:Int
 eT:Int
 av:Int
 gs:List bI
 ax:List (Int×Bool)
 au:List Ring
 aO:List Bool
 aq:ce
 ef:er
 ah:List fE
 Eg:fS
 list:ce
 drawn:Int
 UB:ce
 done:List Ex
 deriving DecidableEq,Repr
def nat?(i:Int):Option Nat:=if 0<=i then some i.toNat else none
def kJ(n:Int):Bool:=decide (-1000000000<=n)&&decide (n<=1000000000)
def Wd.ay(S:Wd)(j:Nat)(y:bI):Wd:={S with gs:=S.gs.set j y}
def Wd.cJ(S:Wd)(j:Nat)(y:fE):Wd:={S with ah:=S.ah.set j y}
def Wd.dZ(S:Wd)(j:Nat)(y:Ring):Wd:={S with au:=S.au.set j y}
def ax8(x:ce)(l who:Int):ce×Bool:=if 0<=l/\0<=who/\idx x l=some (-1)then(x.set l.toNat who,true)else(x,false)
def oB(x:ce)(l who:Int):ce×Bool:=if 0<=l/\0<=who/\idx x l=who then(x.set l.toNat (-1),true)else(x,false)
def owner(x:ce)(l:Int):Int:=(idx x l).getD (-1)
def bU(b:List (Int×Bool))(g:Int):Int:=((idx b g).map (·.1)).getD 2
def token(b:List (Int×Bool))(g:Int):Bool:=((idx b g).map (·.2)).getD false
def tD(b:List (Int×Bool))(g:Int):List (Int×Bool)×Bool:=
 if bU b g≠0 then(b,false)else if token b g=true then(b.set g.toNat (0,false),false)else(b.set g.toNat (1,false),true)
def ready(b:List (Int×Bool))(g:Int):List (Int×Bool)×Bool:=
 if bU b g=1 then(b.set g.toNat (0,token b g),true)else if bU b g=0/\token b g=false then(b.set g.toNat (0,true),true)else(b,false)
def Av(b:List (Int×Bool))(g:Int):List (Int×Bool)×Bool:=
 if bU b g≠0 then(b,false)else(b.set g.toNat (2,false),true)
def eY:Nat->List (Int×Bool)->ce
 |_,[]=>[]
 |i,(a,_)::l=>if a=0 then(i:Int)::eY (i+1) l else eY (i+1) l
def cE(b:List (Int×Bool)):ce:=eY 0 b
structure Ring.Ok(r:Ring):Prop where
 f0:0<=r.first
 f1:r.first<r.pl0.length\/r.pl0.length=0/\r.first=0
 c0:0<=r.count
 c1:r.count<=r.pl0.length
 len:r.pl0.length<=64
def Ring.room(r:Ring):Int:=r.pl0.length
def Ring.full(r:Ring):Bool:=decide (r.count=r.pl0.length)
def Ring.at_(r:Ring)(i:Int):Nat:=((r.first+i) % r.pl0.length).toNat
def Ring.put(r:Ring)(v:Int):Ring×Bool:=
 if r.full then(r,false)else({r with pl0:=r.pl0.set (r.at_ r.count) v,count:=r.count+1},true)
def Ring.get(r:Ring):Ring×Int×Bool:=
 if r.count=0 then(r,0,false)else({r with first:=r.at_ 1,count:=r.count-1},r.pl0.getD r.first.toNat 0,true)
def Ring.pass(r:Ring)(v:Int):Ring×Int×Bool:=
 if r.count=0\/r.full=false then(r,0,false)else({r with pl0:=r.pl0.set r.first.toNat v,first:=r.at_ 1},r.pl0.getD r.first.toNat 0,true)
def Ring.all(r:Ring):ce:=(List.range r.count.toNat).map λ(i:Nat)=>r.pl0.getD (r.at_ i) 0
def er.first(q:er)(k:Int):Int×Bool:=
 match idx q.bM k with
 |some l=>if l.count=0 then(0,false)else(l.first,true)
 |none=>(0,false)
def er.len(q:er)(k:Int):Int:=((idx q.bM k).map (·.count)).getD 0
def er.fJ(q:er)(j:Nat)(y:nf):er:={q with aS:=q.aS.set j y}
def er.fe(q:er)(j:Nat)(y:Ct):er:={q with bM:=q.bM.set j y}
def er.push(q:er)(k x:Int):Option (er×Bool):=
 match idx q.bM k,idx q.aS x with
 |some l,some t=>
  if t.pX≠ -1 then some (q,false) else
  if kJ l.count=false then none else
  if l.last= -1 then some ((q.fJ x.toNat {pX:=k,behind:= -1,ahead:=l.last}).fe k.toNat {first:=x,last:=x,count:=l.count+1},true)
  else do
   let y <-nat? l.last
   let a <-q.aS[y]?
   if y=x.toNat then none else
   some (((q.fJ x.toNat {pX:=k,behind:= -1,ahead:=l.last}).fJ y {a with behind:=x}).fe k.toNat {l with last:=x,count:=l.count+1},true)
 |_,_=>some (q,false)
def er.out(q:er)(x:Nat)(t:nf):Option er:=do
 let k <-nat? t.pX
 let l <-q.bM[k]?
 if kJ l.count=false then none else
 let(q,l) <-if t.ahead= -1 then some (q,{l with first:=t.behind})else(do
  let y <-nat? t.ahead
  let a <-q.aS[y]?
  if y=x then none else
  some (q.fJ y {a with behind:=t.behind},l))
 let(q,l) <-if t.behind= -1 then some (q,{l with last:=t.ahead})else(do
  let y <-nat? t.behind
  let a <-q.aS[y]?
  if y=x then none else
  some (q.fJ y {a with ahead:=t.ahead},l))
 some ((q.fe k {l with count:=l.count-1}).fJ x {})
def er.drop(q:er)(x:Int):Option (er×Bool):=
 match idx q.aS x with
 |none=>some (q,false)
 |some t=>if t.pX= -1 then some (q,false)else(q.out x.toNat t).map (·,true)
def fS.cK(p:fS)(x:Int):Bool:=decide (0<=x)&&decide (x<p.cO)&&((idx p.bV x).map (!·)).getD false
def dN:Nat->ce->ce->ce×ce
 |0,m,c=>(m,c)
 |n+1,m,c=>match m.getLast? with
  |none=>(m,c)
  |some x=>dN n m.dropLast (c++[x])
def nS:Nat->ce->ce->ce×ce
 |0,m,c=>(m,c)
 |n+1,m,c=>match c.getLast? with
   |none=>(m,c)
   |some x=>nS n (m++[x]) c.dropLast
structure fS.Ok(p:fS):Prop where
 m0:1<=p.most
 m1:p.most<=16
 f0:0<=p.cO
 f1:p.cO<=p.bV.length
 s1:p.size<=p.bV.length
 len:p.bV.length<=64
 mid:∀x∈p.aK,0<=x/\x<p.bV.length
 cac:∀c∈p.aC,∀x∈c,0<=x/\x<p.bV.length
 ml:p.aK.length<=64
 cl:∀c∈p.aC,c.length<=16
def fS.bd8(p:fS)(g:Nat)(c:ce):fS:={p with aC:=p.aC.set g c}
def fS.filled(p:fS)(c:ce):ce×ce:=if c=[]then dN (max 1 (p.most.toNat / 2)) p.aK []else(p.aK,c)
def fS.take(p:fS)(g:Nat):fS×Int×Bool:=
 match p.aC[g]? with
 |none=>(p,0,false)
 |some c=>
  match(p.filled c).2.getLast? with
  |some x=>({p with aK:=(p.filled c).1,aC:=p.aC.set g (p.filled c).2.dropLast,bV:=p.bV.set x.toNat false},x,true)
  |none=>if p.cO<p.size then({p with cO:=p.cO+1},p.cO,true)else(p,0,false)
def fS.mu(p:fS)(c:ce):ce×ce:=if(c.length:Int)=p.most then nS (c.length-p.most.toNat / 2) p.aK c else(p.aK,c)
def fS.nh(p:fS)(g:Nat)(x:Int):fS×Bool:=
 match p.aC[g]? with
 |none=>(p,false)
 |some c=>if p.cK x=false then(p,false) else
  ({p with aK:=(p.mu c).1,aC:=p.aC.set g ((p.mu c).2++[x]),bV:=p.bV.set x.toNat true},true)
def fL(w:Wd)(g:Nat)(f:bI->bI):Option Wd:=(w.gs[g]?).map λx=>w.ay g (f x)
def dH(w:Wd)(g:Nat):cu:=((w.gs[g]?).bind λx=>idx x.ops x.at_).getD {}
def mf(w:Wd)(g:Nat):Option cu:=if kJ (dH w g).ch/\(dH w g).cases.length<=1000 then some (dH w g)else none
def cZ(w:Wd)(a:Int):Bool:=decide (1<=a)&&decide (a<=w.au.length)
def bu(x:bI):bI:={ops:=x.ops,at_:=x.at_,ae:=x.ae,bU:=x.bU,token:=x.token,aN:= -1,bY:= -1,br:= -1,bF:= -1,fire:= -1,res:={case:= -1}}
def pair(w:Wd)(g s:Nat):Option Wd:=do
 let x <-w.gs[g]?
 let a <-w.ah[s]?
 let z <-nat? a.g
 let y <-w.gs[z]?
 if z=g then none else some ((w.ay g {x with lQ:=x.t,bF:=a.g}).ay z {y with lQ:=x.t,bF:=g,fire:=a.case})
def serve(w:Wd)(g s:Nat)(done:Bool):Option Wd:=do
 let x <-w.gs[g]?
 let a <-w.ah[s]?
 let z <-nat? a.g
 let y <-w.gs[z]?
 if z=g\/1000000<=x.OK.length then none else some (((w.cJ s {a with done:=done}).ay z {y with aN:=s}).ay g {x with OK:=x.OK++[a.g],br:= -1})
def fZ(w:Wd)(x:Int):Option Wd:=(w.ef.drop x).map λq=>{w with ef:=q.1}
def lh(w:Wd)(k x:Int):Option Wd:=(w.ef.push k x).map λq=>{w with ef:=q.1}
def free(w:Wd)(l g:Int):Wd:={w with aq:=(oB w.aq l g).1}
def dk(w:Wd)(g:Nat):Option Wd:=fL w g λx=>{x with ae:=if x.OK=[]then 18 else 17}
def lock(w:Wd)(g:Nat)(l:Int):Option Wd:=
 if(ax8 w.aq l g).2 then fL {w with aq:=(ax8 w.aq l g).1} g λx=>{x with ae:=if(dH w g).ai=6 then 21 else 5}else some w
def gH(w:Wd)(g:Nat):Option (Wd×Bool):=do
 let x <-w.gs[g]?
 let o <-mf w g
 if x.ae=4 then(lock w g (o.ch-1)).map (·,true)
 else if x.ae=12 then some ((free w (o.ch-1) g).ay g {x with ae:=13},true)
 else if x.ae=13 then some ({w.ay g {x with ae:=14}with ax:=(tD w.ax g).1},true)
 else if x.ae=15 then do
  let s <-nat? x.bY
  let _ <-w.ah[s]?
  some ((({w.cJ s {}with Eg:=(w.Eg.nh g x.bY).1}:Wd).ay g {x with bY:= -1,ae:=18}),true)
 else if x.ae=16 then(dk (free w (o.ch-1) g) g).map (·,true)
 else if x.ae=17 then do
  let z <-x.OK[0]?
  (dk (({w with ax:=(ready w.ax z).1}:Wd).ay g {x with OK:=x.OK.drop 1}) g).map (·,true)
 else some (w,false)
def dK(w:Wd)(a:Int):Bool:=cZ w a&&(idx w.aO (a-1)).getD false
def Gt(w:Wd)(g:Nat)(p:Int):Option Wd:=fL w g λx=>{x with ae:=p}
def take(w:Wd)(g:Nat)(k a hand:Int):Option (Wd×Bool):=
 if(w.ef.first k).2=false then some (w,false)else do
 let s <-nat? (w.ef.first k).1
 let x <-w.gs[g]?
 let b <-w.ah[s]?
 if 0<=b.case then some (w.ay g {x with br:=s,ae:=a},true)else do
 let w <-fZ (w.ay g {x with br:=s,t:=w.av}) s
 let w <-pair w g s
 (Gt w g hand).map (·,true)
def rD(w:Wd)(g:Nat)(lost a:Int):Option Wd:=do
 let x <-w.gs[g]?
 let s <-nat? x.br
 let b <-w.ah[s]?
 let z <-nat? b.g
 let y <-w.gs[z]?
 if z=g then none else
 if y.aR then do
  let w <-fZ w s
  some (w.ay g {x with br:= -1,ae:=lost})
 else do
  let w <-pair ((w.ay z {y with aR:=true}).ay g {x with t:=w.av}) g s
  Gt w g a
def rE(w:Wd)(g:Nat)(s:fE):Option Wd:=do
 let x <-w.gs[g]?
 if(w.Eg.take g).2.2 then do
  let j <-nat? (w.Eg.take g).2.1
  let _ <-w.ah[j]?
  some ((({w with Eg:=(w.Eg.take g).1}:Wd).ay g {x with bY:=j,ae:=11}).cJ j s)
 else some (({w with Eg:=(w.Eg.take g).1}:Wd).ay g {x with res:={x.res with aJ:=6},ae:=16})
def bZ(a:Int):nP:={aJ:=a,case:= -1,ok:=decide (a=1)}
def kq(w:Wd)(a:Int):Option (Nat×Ring):=do
 let c <-nat? (a-1)
 let r <-w.au[c]?
 some (c,r)
def pY(w:Wd)(a:Int):Option Bool:=
 if cZ w a=false then some false else do
  let(_,r) <-kq w a
  if 0<r.room then some (!r.full)else some (0<w.ef.len (2*a-2))
def aH8(w:Wd)(a v:Int):Option (Wd×Bool):=do
 let(c,r) <-kq w a
 some (w.dZ c (r.put v).1,(r.put v).2)
def getRing(w:Wd)(a:Int):Option (Wd×Int×Bool):=do
 let(c,r) <-kq w a
 some (w.dZ c r.get.1,r.get.2.1,r.get.2.2)
def aW7(w:Wd)(g:Nat)(a:Int):Option Wd:=do
 let room <-pY w a
 if room then Gt w g 4 else fL w g λx=>{x with lQ:=w.av,ae:=2}
def jG(w:Wd)(g:Nat)(a:Int):Option Wd:=
 if dK w a then fL w g λx=>{x with lQ:=0,ae:=4}else fL w g λx=>{x with res:={x.res with aJ:=2},ae:=18}
def jH(w:Wd)(g:Nat)(a:Int):Option Wd:=
 if dK w a then fL w g λx=>{x with res:=bZ 3,lQ:=w.av,ae:=16}else Gt w g 6
def aW8(w:Wd)(g:Nat)(v:Int):Option Wd:=do
 let x <-w.gs[g]?
 let s <-nat? x.br
 let w <-fZ w s
 let a <-w.ah[s]?
 let w <-serve (w.cJ s {a with v:=v}) g s true
 fL w g λx=>{x with res:=bZ 1,ae:=16}
def jY(w:Wd)(g:Nat)(o:cu):Option Wd:=do
 let(w,a) <-if cZ w o.ch then aH8 w o.ch o.v else some (w,false)
 if a then fL w g λx=>{x with res:=bZ 1,lQ:=w.av,ae:=16}
 else if o.ai=4 then fL w g λx=>{x with res:=bZ 2,lQ:=w.av,ae:=16}
 else Gt w g 10
def lu(w:Wd)(g:Nat):Option Wd:=do
 let x <-w.gs[g]?
 let s <-nat? x.aN
 let a <-w.ah[s]?
 some (w.ay g {x with res:=bZ (if a.done then 1 else 3),aN:= -1,ae:=15})
def rF(w:Wd)(g:Nat)(k:Int):Option Wd:=do
 let x <-w.gs[g]?
 let w <-lh w k x.bY
 some (w.ay g {x with bJ:=w.av,ae:=12})
def yes(x:Option Wd):Option (Wd×Bool):=x.map (·,true)
def jq(w:Wd)(g:Nat):Option (Wd×Bool):=do
 let o <-mf w g
 let x <-w.gs[g]?
 if o.ai≠2/\o.ai≠4 then some (w,false)
 else if x.ae=1 then yes (aW7 w g o.ch)
 else if x.ae=2 then yes (jG w g o.ch)
 else if x.ae=5 then yes (jH w g o.ch)
 else if x.ae=6 then do
  let(w,a) <-take w g (2*o.ch-2) 7 8
  if a then some (w,true)else yes (Gt w g 9)
 else if x.ae=7 then yes (rD w g 6 8)
 else if x.ae=8 then yes (aW8 w g o.v)
 else if x.ae=9 then yes (jY w g o)
 else if x.ae=10 then yes (rE w g {cK:=true,g:=g,ch:=o.ch,case:= -1,cF:=true,v:=o.v})
 else if x.ae=11 then yes (rF w g (2*o.ch-1))
 else if x.ae=14 then yes (lu w g)
 else gH w g
def iX(w:Wd)(a:Int):Option Bool:=
 if cZ w a=false then some false else do
  let(_,r) <-kq w a
  if 0<r.room then some (0<r.count)else some (0<w.ef.len (2*a-1))
def ik(w:Wd)(b:Int)(s:Nat):Option (Wd×Int):=
 if cZ w b=false then some (w,0)else do
  let a <-w.ah[s]?
  let(c,r) <-kq w b
  if r.room=0 then some (w,a.v)else some (w.dZ c (r.pass a.v).1,if(r.pass a.v).2.2 then(r.pass a.v).2.1 else 0)
def aW9(w:Wd)(g:Nat)(b:Int):Option Wd:=do
 let x <-w.gs[g]?
 if x.ae=1 then do
  let a <-iX w b
  if a then Gt w g 4 else some (w.ay g {x with lQ:=w.av,ae:=2})
 else if x.ae=2 then
  if dK w b then Gt w g 3 else some (w.ay g {x with res:={x.res with aJ:=2},ae:=18})
 else do
  let a <-iX w b
  if a then some (w.ay g {x with lQ:=0,ae:=4})else some (w.ay g {x with res:={aJ:=1,case:= -1},lQ:=w.av,ae:=18})
def jI(w:Wd)(g:Nat)(a:Int):Option Wd:=do
 let x <-w.gs[g]?
 if dK w a then do
  let(_,r) <-kq w a
  if 0<r.count then Gt w g 9 else some (w.ay g {x with res:={aJ:=1,case:= -1},lQ:=w.av,ae:=16})
 else Gt w g 6
def pZ(w:Wd)(g:Nat)(a:Int):Option Wd:=do
 let x <-w.gs[g]?
 let s <-nat? x.br
 let w <-fZ w s
 let(w,v) <-ik w a s
 let w <-serve w g s true
 fL w g λx=>{x with res:={aJ:=1,case:= -1,v:=v,ok:=true},ae:=16}
def jZ(w:Wd)(g:Nat)(o:cu):Option Wd:=do
 let(w,v,a) <-if cZ w o.ch then getRing w o.ch else some (w,0,false)
 if a then fL w g λx=>{x with res:={aJ:=1,case:= -1,v:=v,ok:=true},lQ:=w.av,ae:=16}
 else if o.ai=3 then Gt w g 10
 else fL w g λx=>{x with res:={aJ:=2,case:= -1},lQ:=w.av,ae:=16}
def iE(w:Wd)(g:Nat)(o:cu):Option Wd:=do
 let x <-w.gs[g]?
 if x.ae=5 then jI w g o.ch
 else if x.ae=6 then do
  let(w,a) <-take w g (2*o.ch-1) 7 8
  if a then some w else Gt w g 9
 else if x.ae=7 then rD w g 6 8
 else if x.ae=8 then pZ w g o.ch
 else jZ w g o
def j1(w:Wd)(g:Nat)(a:Int):Option Wd:=do
 let x <-w.gs[g]?
 if x.ae=10 then rE w g {cK:=true,g:=g,ch:=a,case:= -1}
 else if x.ae=11 then rF w g (2*a-2)
 else do
  let s <-nat? x.aN
  let b <-w.ah[s]?
  some (w.ay g {x with res:=if b.done then{aJ:=1,case:= -1,v:=b.v,ok:=true}else{aJ:=1,case:= -1},aN:= -1,ae:=15})
def eO(p:Int):Bool:=p=4\/p=12\/p=13\/p=15\/p=16\/p=17
def jr(w:Wd)(g:Nat):Option (Wd×Bool):=do
 let o <-mf w g
 let x <-w.gs[g]?
 if o.ai≠3/\o.ai≠5 then some (w,false)
 else if eO x.ae then gH w g
 else if x.ae=1\/x.ae=2\/x.ae=3 then yes (aW9 w g o.ch)
 else if x.ae=5\/x.ae=6\/x.ae=7\/x.ae=8\/x.ae=9 then yes (iE w g o)
 else if x.ae=10\/x.ae=11\/x.ae=14 then yes (j1 w g o.ch)
 else some (w,false)
def yo(w:Wd)(g:Nat):Option Wd:=do
 let x <-w.gs[g]?
 let s <-nat? x.br
 let w <-fZ (w.ay g {x with t:=w.av}) s
 let a <-w.ah[s]?
 let z <-nat? a.g
 let y <-w.gs[z]?
 if z=g then none else serve (w.ay z {y with lQ:=w.av,fire:=a.case}) g s false
def uD(w:Wd)(g:Nat)(a:Int):Option Wd:=do
 let x <-w.gs[g]?
 if dK w a then some (w.ay g {x with lQ:=w.av,res:={aJ:=4,case:= -1},ae:=16})
 else do
  let w <-if cZ w a then(put w.aO (a-1) true).map λc=>{w with aO:=c}else some w
  some (w.ay g {x with lQ:=w.av,res:={aJ:=1,case:= -1,ok:=true},ae:=22})
def sK(w:Wd)(a:Int):Int×Bool:=if(w.ef.first (2*a-2)).2 then w.ef.first (2*a-2)else w.ef.first (2*a-1)
def aZ4(w:Wd)(g:Nat)(a:Int):Option Wd:=do
 let x <-w.gs[g]?
 if(sK w a).2=false then Gt w g 16 else do
 let s <-nat? (sK w a).1
 let b <-w.ah[s]?
 if 0<=b.case then some (w.ay g {x with br:=s,ae:=23})
 else if b.case= -1 then yo (w.ay g {x with br:=s}) g
 else some (w.ay g {x with br:=s})
def aX0(w:Wd)(g:Nat):Option Wd:=do
 let x <-w.gs[g]?
 let s <-nat? x.br
 let a <-w.ah[s]?
 let z <-nat? a.g
 let y <-w.gs[z]?
 if z=g then none else
 if y.aR then do
  let w <-fZ w s
  some (w.ay g {x with br:= -1,ae:=22})
 else do
  let w <-yo (w.ay z {y with aR:=true}) g
  Gt w g 22
def js(w:Wd)(g:Nat):Option (Wd×Bool):=do
 let o <-mf w g
 let x <-w.gs[g]?
 if o.ai≠6 then some (w,false)
 else if eO x.ae then gH w g
 else if x.ae=21 then yes (uD w g o.ch)
 else if x.ae=22 then yes (aZ4 w g o.ch)
 else if x.ae=23 then yes (aX0 w g)
 else some (w,false)
def dU(x:bI):Option Int:=idx x.aH x.k
def iF(o:cu)(i:Int):Option Case:=do
 let c <-idx o.cases i
 if kJ c.ch then some c else none
def eZ(x:bI)(p:Int):bI:={x with k:=x.aq.length,ae:=p}
def jt(w:Wd)(g:Nat)(a:Int):Option Wd:=do
 let x <-w.gs[g]?
 let l <-idx x.aq x.k
 if kJ l=false then none else
 if(ax8 w.aq (l-1) g).2=false then some w else
 if kJ x.k=false then none else
 some (({w with aq:=(ax8 w.aq (l-1) g).1}:Wd).ay g (if x.k+1=x.aq.length then{x with k:=0,ae:=a}else{x with k:=x.k+1}))
def Ys(w:Wd)(g:Nat):Option (Wd×Bool):=do
 let x <-w.gs[g]?
 if kJ x.k=false then none else
 let l <-idx x.aq (x.k-1)
 if kJ l=false then none else
 some ((free w (l-1) g).ay g {x with k:=x.k-1},decide (x.k-1<=0))
def aP8(x:bI):Int:=if x.OK=[]then 18 else 17
def fG(x:bI):Int:=if x.res.aJ=0 then 13 else if x.bA.any (λs=>s != -1)then 34 else aP8 x
def iH(w:Wd)(g:Nat):Option Wd:=do
 let(w,a) <-Ys w g
 if a=false then some w else fL w g λx=>{x with ae:=fG x}
def eH(w:Wd)(g:Nat):Option Wd:=do
 let x <-w.gs[g]?
 if x.ae=27 then do
  let h <-dU x
  some (w.ay g {x with fire:=h})
 else some w
def te(w:Wd)(g:Nat)(r:nP):Option Wd:=fL w g λx=>eZ {x with res:=r,lQ:=w.av,fire:=r.case} 30
def j3(w:Wd)(g:Nat)(o:cu):Option Wd:=do
 let x <-w.gs[g]?
 if kJ x.k=false then none else
 if x.k+1<x.aH.length then some (w.ay g {x with k:=x.k+1})
 else if o.dG then te (w.ay g {x with k:=x.k+1}) g {aJ:=2,case:= -1}
 else some (w.ay g {x with bA:=List.replicate o.cases.length (-1),k:=0,ae:=28})
def j4(w:Wd)(g:Nat)(c:Case):Option (Wd×nP×Bool×Bool):=do
 let b <-idx w.aO (c.ch-1)
 if b then some (w,{aJ:=3},true,false)else do
 let(w,a) <-take w g (2*c.ch-2) 26 27
 if a then some (w,{},false,true)else do
 let(w,a) <-aH8 w c.ch c.v
 if a then some (w,{aJ:=1,ok:=true},true,false)else some (w,{},false,false)
def j5(w:Wd)(g:Nat)(c:Case):Option (Wd×nP×Bool×Bool):=do
 let(w,a) <-take w g (2*c.ch-1) 26 27
 if a then some (w,{},false,true)else do
 let(w,v,a) <-getRing w c.ch
 if a then some (w,{aJ:=1,v:=v,ok:=true},true,false)else do
 let b <-idx w.aO (c.ch-1)
 if b then some (w,{aJ:=1},true,false)else some (w,{},false,false)
def uE(w:Wd)(g:Nat)(o:cu):Option Wd:=do
 let x <-w.gs[g]?
 let i <-dU x
 let c <-iF o i
 let(w,r,done,a) <-if c.cF then j4 w g c else j5 w g c
 if a then eH w g else if done then te w g {r with case:=i}else j3 w g o
def jJ(w:Wd)(g:Nat)(o:cu):Option Wd:=do
 let x <-w.gs[g]?
 let i <-dU x
 let s <-nat? x.br
 let c <-iF o i
 let w <-fZ w s
 let(w,v) <-if c.cF then(do
   let a <-w.ah[s]?
   some (w.cJ s {a with v:=c.v},0))else ik w c.ch s
 let w <-serve w g s true
 fL w g λx=>eZ {x with res:={aJ:=1,case:=i,ok:=true,v:=v}} 30
def ju(w:Wd)(g:Nat)(o:cu):Option Wd:=do
 let x <-w.gs[g]?
 if(w.Eg.take g).2.2=false then some (({w with Eg:=(w.Eg.take g).1}:Wd).ay g (eZ {x with res:={x.res with aJ:=6}} 30))
 else do
  let i <-dU x
  let c <-iF o i
  let j <-nat? (w.Eg.take g).2.1
  let _ <-w.ah[j]?
  let a <-put x.bA i j
  if kJ x.k=false then none else
  some ((({w with Eg:=(w.Eg.take g).1}:Wd).cJ j {cK:=true,g:=g,ch:=c.ch,case:=i,cF:=c.cF,v:=c.v}).ay g
   (if x.aH.length<=x.k+1 then{x with bA:=a,k:=0,ae:=29}else{x with bA:=a,k:=x.k+1}))
def gK(w:Wd)(g:Nat)(o:cu):Option Wd:=do
 let x <-w.gs[g]?
 let i <-dU x
 let c <-iF o i
 let s <-idx x.bA i
 let w <-lh w (if c.cF then 2*c.ch-1 else 2*c.ch-2) s
 if kJ x.k=false then none else
 some (w.ay g (if x.aH.length<=x.k+1 then eZ {x with bJ:=w.av} 30 else{x with k:=x.k+1}))
def mK(s:fE):nP:=if s.done&&s.cF then{aJ:=1,case:=s.case,ok:=true}else if s.done then{aJ:=1,case:=s.case,ok:=true,v:=s.v}else if s.cF then{aJ:=3,case:=s.case}else{aJ:=1,case:=s.case}
def uF(w:Wd)(g:Nat):Option Wd:=do
 let x <-w.gs[g]?
 let p <-nat? x.aN
 let s <-w.ah[p]?
 some (w.ay g {x with res:=mK s,aN:= -1,k:=0,ae:=31})
def uG(w:Wd)(g:Nat):Option Wd:=do
 let x <-w.gs[g]?
 let i <-dU x
 let s <-idx x.bA i
 let w <-fZ w s
 if kJ x.k=false then none else
 some (w.ay g (if x.aH.length<=x.k+1 then eZ x 33 else{x with k:=x.k+1}))
def jK(w:Wd)(g:Nat):Option Wd:=do
 let x <-w.gs[g]?
 let i <-dU x
 let s <-idx x.bA i
 let w <-if s= -1 then some w else(do
  let j <-nat? s
  let _ <-w.ah[j]?
  some (({w with Eg:=(w.Eg.nh g s).1}:Wd).cJ j {}))
 let a <-put x.bA i (-1)
 if kJ x.k=false then none else
 some (w.ay g (if x.aH.length<=x.k+1 then{x with k:=0,bA:=[],ae:=aP8 x}else{x with bA:=a,k:=x.k+1}))
def aS7(w:Wd)(g:Nat):Option (Wd×Bool):=do
 let o <-mf w g
 let x <-w.gs[g]?
 if o.ai≠9 then some (w,false)
 else if x.ae=13\/x.ae=17 then gH w g
 else if x.ae=24 then yes (jt w g 25)
 else if x.ae=25 then yes (uE w g o)
 else if x.ae=26 then yes ((rD w g 25 27).bind (eH · g))
 else if x.ae=27 then yes (jJ w g o)
 else if x.ae=28 then yes (ju w g o)
 else if x.ae=29 then yes (gK w g o)
 else if x.ae=30 then yes (iH w g)
 else if x.ae=14 then yes (uF w g)
 else if x.ae=31 then yes (jt w g 32)
 else if x.ae=32 then yes (uG w g)
 else if x.ae=33 then do
  let(w,a) <-Ys w g
  if a then yes (Gt w g 34)else some (w,true)
 else if x.ae=34 then yes (jK w g)
 else some (w,false)
def ND(l:ce)(i j:Nat):ce:=(l.set i (l.getD j 0)).set j (l.getD i 0)
def kB(a:ce):Nat->ce
 |0=>[]
 |k+1=>ND (kB a k++[(k:Int)]) k (a.getD k 0 % ((k:Int)+1)).toNat
def ji(x:Int):ce->ce
 | []=>[x]
 |y::l=>if x<=y then x::y::l else y::ji x l
def jL(out:ce)(x:Int):ce:=if x<=0 then out else if 0<out.length/\out.getD (out.length-1) 0=x then out else out++[x]
def kf(a:ce):ce:=(a.foldr ji []).foldl jL []
def gw(l:ce)(d n:Int):Int×Int:=if n<1\/(l.length:Int)<=d then(0,d)else(((idx l d).getD 0) % n,d+1)
def gy(l:ce):Int->Nat->Nat->ce×Int
 |d,_,0=>([],d)
 |d,i,n+1=>let r:=gw l d (i+1);let rest:=gy l r.2 (i+1) n;(r.1::rest.1,rest.2)
def never(w:Wd)(g:Nat):Option Wd:=Gt {w with ax:=(tD w.ax g).1} g 19
def Nc(w:Wd)(g:Nat)(a:Int):Option Wd:=fL w g λx=>{x with res:={aJ:=a,case:= -1},lQ:=w.av,ae:=18}
def aT3(w:Wd)(o:cu)(a:ce):Option (List (Int×Int)):=
 ((kB a a.length).mapM λi=>(iF o i).map λc=>(i,c.ch)).map (·.filter λp=>cZ w p.2)
def gM(w:Wd)(g:Nat)(o:cu):Option Wd:=do
 if kJ w.drawn=false\/w.drawn<0 then none else
 let r:=gy w.list w.drawn 0 o.cases.length
 let a <-aT3 w o r.1
 let x <-w.gs[g]?
 let w:=({w with drawn:=r.2}:Wd).ay g {x with aH:=a.map (·.1),aq:=kf (a.map (·.2))}
 if a≠[]then Gt w g 24 else if o.dG then Nc w g 2 else never w g
def jT(w:Wd)(g:Nat):Option Wd:=do
 let x <-w.gs[g]?
 if(x.ops.length:Int)<=x.at_ then some {w with ax:=(Av w.ax g).1}else do
  let o <-mf w g
  let m:=cZ w o.ch
  let w:=w.ay g {bu x with call:=w.av}
  if o.ai=1\/o.ai=7\/o.ai=8 then Gt w g 20
  else if o.ai=2\/o.ai=3 then if m then Gt w g 4 else never w g
  else if o.ai=4\/o.ai=5 then if m then Gt w g 1 else Nc w g 2
  else if o.ai=6 then if m then Gt w g 4 else Nc w g 5
  else if o.ai=9 then gM w g o
  else some w
def makeChan(w:Wd)(room:Int):Option (Wd×nP):=
 if 8<=w.au.length then some (w,{aJ:=7,case:= -1})
 else if room<0\/64<room then none
 else
  some ({w with au:=w.au++[{pl0:=List.replicate room.toNat 0}],aO:=w.aO++[false],aq:=w.aq++List.replicate (w.au.length+1-w.aq.length) (-1)},{aJ:=1,case:= -1,ok:=true,n:=w.au.length+1})
def wQ(w:Wd)(o:cu):Option Int:=
 if cZ w o.ch=false then some 0 else(kq w o.ch).map λr=>if o.ai=7 then r.2.count else r.2.room
def doS(w:Wd)(g:Nat):Option Wd:=do
 let o <-mf w g
 let x <-w.gs[g]?
 if o.ai=1 then do
  let(w,r) <-makeChan w o.n
  some (w.ay g {x with res:=r,lQ:=w.av,ae:=18})
 else if o.ai=7\/o.ai=8 then do
  let n <-wQ w o
  some (w.ay g {x with res:={aJ:=1,case:= -1,ok:=true,n:=n},lQ:=w.av,ae:=18})
 else some (w.ay g {x with lQ:=w.av,ae:=18})
def qu(x:bI)(g a:Int):Ex:={g:=g,op:=x.at_,call:=x.call,bJ:=x.bJ,lQ:=x.lQ,bF:=x.bF,fire:=x.fire,re:=a,res:=x.res}
def mL(w:Wd)(g:Nat):Option Wd:=do
 let x <-w.gs[g]?
 if kJ x.at_=false then none else
 if 1000000<=w.done.length then none else
 some (({w with done:=w.done++[qu x g w.av]}:Wd).ay g {bu {x with at_:=x.at_+1}with ae:=0})
def gh(w:Wd)(g:Nat):Option (Wd×Bool):=do
 let x <-w.gs[g]?
 if x.ae=0 then yes (jT w g)
 else if x.ae=20 then yes (doS w g)
 else if x.ae=18 then yes (mL w g)
 else some (w,false)
def pA(l:ce)(a:Int):Int:=l.getD (a % l.length).toNat 0
def gj(p:be)(a cache:Int)(b:ce):Wd:=
 {dV:=a,eT:=cache,av:=0,gs:=p.map λl=>bu {ops:=l},ax:=p.map λ_=>(0,false),au:=[],aO:=[],aq:=[],
  ef:={aS:=List.replicate a.toNat {},bM:=List.replicate 16 {}},ah:=List.replicate a.toNat {},
  Eg:={size:=a,most:=cache,aC:=p.map λ_=>[],aK:=[],cO:=0,bV:=List.replicate a.toNat false},list:=b,drawn:=0,UB:=b,done:=[]}
end Mach
open Go.RowKit
def bT{α:Type}(f:Nat->α->bi):Nat->List α->bi
 |_,[]=>[]
 |i,x::l=>f i x++bT f (i+1) l
theorem aV9{α:Type}{f:Nat->α->bi}{k:Nat}(a:∀i x,(f i x).length=k):∀(l:List α) (i:Nat),(bT f i l).length=l.length*k
 | [],_=>by simp[bT]
 |x::l,i=>by simp[bT,a,aV9 a l,al9];omega
theorem fq{α:Type}{f:Nat->α->bi}{k:Nat}(b:∀i x,(f i x).length=k):∀(l:List α) (i g j:Nat) (x:α),l[g]?=x->j<k->(bT f i l)[g*k+j]?=(f (i+g) x)[j]?
 | [],_,_,_,_,h,_=>cj5
 |y::l,i,0,j,x,h,a=>by simp[bT,Nat.zero_mul,wl,bH0];grind
 |y::l,i,g+1,j,x,h,a=>by simp[bT];have:=fq b l (i+1) g j x ck0 a;grind
theorem oC{α:Type}{f:Nat->α->bi}{k:Nat}(a:∀i x,(f i x).length=k):∀(l:List α) (i g j:Nat) (x y:α) (v:Value),l[g]?=x->j<k->f (i+g) y=(f (i+g) x).set j v->bT f i (l.set g y)=(bT f i l).set (g*k+j) v
 | [],_,_,_,_,_,_,h,_,_=>cj5
 |z::l,i,0,j,x,y,v,h,b,hf=>by simp[ro,bT,Nat.zero_mul,wl];grind
 |z::l,i,g+1,j,x,y,v,h,b,hf=>by simp[qr,bT];rw[List.set_append_right _ _ (by rw[a,al9];omega),a,show(g+1)*k+j-k=g*k+j by rw[al9];omega,oC a l (i+1) g j x y v ck0 b cr7]
theorem ni{α:Type}(f:Nat->α->bi):∀(l a:List α) (i:Nat),bT f i (l++a)=bT f i l++bT f (i+l.length) a
 | [],a,i=>by simp[bT]
 |x::l,a,i=>by simp[bT,ni f l a (i+1),al2];rw[show i+1+l.length=i+(l.length+1)by omega]
theorem iI{α:Type}{f a:Nat->α->bi}:∀(l:List α) (i:Nat),(∀j x,l[j]?=some x->f (i+j) x=a (i+j) x)->bT f i l=bT a i l
 | [],_,_=>rfl
 |x::l,i,h=>by simp[bT];have b:f i x=a i x:=h 0 x sX;have c:bT f (i+1) l=bT a (i+1) l:=iI l (i+1) (λj y d=>by have e:=h (j+1) y (by simpa using d);have g:i+1+j=i+(j+1):=oX;rw[g];exact e);rw[b,c]
inductive bH where
 |aQ|gs|dB|ax|au|eU (i:Nat)|pl0 (i:Nat)|aO|dY|dQ|ef|aS|bM|ah
 |Eg|aC|cache (g:Nat)|aK|bV|gN|list|UB|done
 |ops (g:Nat)|cases(g j:Nat)|aH (g:Nat)|aq (g:Nat)|bA (g:Nat)|OK (g:Nat)
 deriving DecidableEq
structure Mem where
 aV:bH->Option Nat
 cap:bH->Nat
def Mem.cU(m:Mem)(r:bH)(n:Nat):Value:=match m.aV r with|none=> .slice none 0 0|some b=> .slice (some ⟨b,0,none⟩) n (m.cap r)
def Mem.ptr(m:Mem)(r:bH):Value:=.pointer ((m.aV r).map λb=>⟨b,0,none⟩)
theorem Mem.de{m:Mem}{r:bH}{b:Nat}(h:m.aV r=b){n:Nat}:m.cU r n=.slice (some ⟨b,0,none⟩) n (m.cap r):=by simp[Mem.cU,h]
theorem Mem.mM(m:Mem)(r:bH)(n:Nat):(m.cU r n).ownBlock=m.aV r:=by
 cases h:m.aV r<;>simp[Mem.cU,h,Value.ownBlock]
theorem Mem.j6{m:Mem}{r:bH}(h:m.aV r=none){n:Nat}:m.cU r n=.slice none 0 0:=by simp[Mem.cU,h]
theorem Mem.lz{m:Mem}{r:bH}{b:Nat}(h:m.aV r=b):m.ptr r=.pointer (some ⟨b,0,none⟩):=by simp[Mem.ptr,h]
structure Fx where
 aQ:Nat
 gs:Nat
 dB:Nat
 ax:Nat
 dY:Nat
 ef:Nat
 aS:Nat
 bM:Nat
 ah:Nat
 Eg:Nat
 aC:Nat
 bV:Nat
 gN:Nat
structure Fx.Of(F:Fx)(m:Mem):Prop where
 aQ:m.aV .aQ=F.aQ
 gs:m.aV .gs=F.gs
 dB:m.aV .dB=F.dB
 ax:m.aV .ax=F.ax
 dY:m.aV .dY=F.dY
 ef:m.aV .ef=F.ef
 aS:m.aV .aS=F.aS
 bM:m.aV .bM=F.bM
 ah:m.aV .ah=F.ah
 Eg:m.aV .Eg=F.Eg
 aC:m.aV .aC=F.aC
 bV:m.aV .bV=F.bV
 gN:m.aV .gN=F.gN
open Mach
abbrev I(n:Int):Value:=.int .i64 n
abbrev B(b:Bool):Value:=.bool b
instance(a:Option Addr)(n c:Nat):CoeDep (Option Addr×Nat×Nat) (a,n,c) Value:=⟨.slice a n c⟩
instance(b n c:Nat):CoeDep (Nat×Nat×Nat) (b,n,c) Value:=⟨.slice (some ⟨b,0,none⟩) n c⟩
instance:CoeDep Unit () Value:=⟨.slice none 0 0⟩
instance:Coe Int Value:=⟨I⟩
instance:Coe Bool Value:=⟨B⟩
instance:Coe Nat Value:=⟨λb=>.pointer (some ⟨b,0,none⟩)⟩
instance(b o:Nat):CoeDep (Nat×Nat) (b,o) Addr:=⟨⟨b,o,none⟩⟩
instance(b o:Nat):CoeDep (Nat×Nat) (b,o) (Option Addr):=⟨some ⟨b,o,none⟩⟩
instance:Coe Nat Addr:=⟨λb=>⟨b,0,none⟩⟩
instance:Coe World Nat:=⟨λw=>w.heap.size⟩
instance{α:Type}:CoeOut (List α) Nat:=⟨List.length⟩
instance:Coe Value Ending:=⟨.returned⟩
instance(a:Array Value)(t:Nat):CoeDep (Array Value×Nat) (a,t) Obj:=⟨.cells a t⟩
abbrev U(n:Int):Value:=.int .u16 n
def ru(r:nP):bi:=[I r.aJ,I r.case,I r.v,B r.ok,I r.n]
def fT(_:Nat)(c:Case):bi:=[B c.cF,I c.ch,I c.v]
def Cu(m:Mem)(g:Nat)(j:Nat)(o:cu):bi:=[I o.ai,I o.ch,I o.n,I o.v,m.cU (.cases g j) o.cases.length,B o.dG]
def gk(m:Mem)(g:Nat)(x:bI):bi:=
 [m.cU (.ops g) x.ops.length,I x.at_,I x.ae,I x.bU,B x.token,I x.call,B x.aR,I x.aN,I x.bY,I x.br,I x.t,I x.bJ,I x.lQ,I x.bF,I x.fire]++ru x.res++
 [m.cU (.aH g) x.aH.length,m.cU (.aq g) x.aq.length,m.cU (.bA g) x.bA.length,m.cU (.OK g) x.OK.length,I x.k]
def mg(_:Nat)(s:fE):bi:=[B s.cK,I s.g,I s.ch,I s.case,B s.cF,I s.v,B s.done]
def ib(_:Nat)(x:Ex):bi:=[I x.g,I x.op,I x.call,I x.bJ,I x.lQ,I x.bF,I x.fire,I x.re]++ru x.res
def oD(_:Nat)(x:nf):bi:=[I x.pX,I x.behind,I x.ahead]
def rG(_:Nat)(x:Ct):bi:=[I x.first,I x.last,I x.count]
def ry(_:Nat)(x:Int×Bool):bi:=[I x.1,B x.2]
def je(m:Mem)(g:Nat)(c:ce):bi:=[m.cU (.cache g) c.length]
def aj(m:Mem)(S:Wd):bH->bi
 | .aQ=>[I S.dV,I S.eT,I S.av,m.cU .gs S.gs.length,m.ptr .dB,m.cU .au S.au.length,m.cU .aO S.aO.length,m.ptr .dY,m.ptr .ef,m.cU .ah S.ah.length,
   m.ptr .Eg,m.ptr .gN,m.cU .UB S.UB.length,m.cU .done S.done.length]
 | .gs=>bT (gk m) 0 S.gs
 | .dB=>[m.cU .ax S.ax.length]
 | .ax=>bT ry 0 S.ax
 | .au=>(List.range S.au.length).map λi=>m.ptr (.eU i)
 | .eU i=>match S.au[i]? with|some r=>[m.cU (.pl0 i) r.pl0.length,I r.first,I r.count]|none=>[]
 | .pl0 i=>match S.au[i]? with|some r=>r.pl0.map I|none=>[]
 | .aO=>S.aO.map B
 | .dY=>[m.cU .dQ S.aq.length]
 | .dQ=>S.aq.map I
 | .ef=>[m.cU .aS S.ef.aS.length,m.cU .bM S.ef.bM.length]
 | .aS=>bT oD 0 S.ef.aS
 | .bM=>bT rG 0 S.ef.bM
 | .ah=>bT mg 0 S.ah
 | .Eg=>[I S.Eg.size,I S.Eg.most,m.cU .aC S.Eg.aC.length,m.cU .aK S.Eg.aK.length,I S.Eg.cO,m.cU .bV S.Eg.bV.length]
 | .aC=>bT (je m) 0 S.Eg.aC
 | .cache g=>match S.Eg.aC[g]? with|some c=>c.map I|none=>[]
 | .aK=>S.Eg.aK.map I
 | .bV=>S.Eg.bV.map B
 | .gN=>[m.cU .list S.list.length,I S.drawn]
 | .list=>S.list.map U
 | .UB=>S.UB.map U
 | .done=>bT ib 0 S.done
 | .ops g=>match S.gs[g]? with|some x=>bT (Cu m g) 0 x.ops|none=>[]
 | .cases g j=>match S.gs[g]? with|some x=>(match x.ops[j]? with|some o=>bT fT 0 o.cases|none=>[])|none=>[]
 | .aH g=>match S.gs[g]? with|some x=>x.aH.map I|none=>[]
 | .aq g=>match S.gs[g]? with|some x=>x.aq.map I|none=>[]
 | .bA g=>match S.gs[g]? with|some x=>x.bA.map I|none=>[]
 | .OK g=>match S.gs[g]? with|some x=>x.OK.map I|none=>[]
def eI:bH->Option (Nat×Nat)
 | .gs=>some (100,25)| .au=>some (118,1)| .aO=>some (4,1)| .dQ=>some (3,1)| .cache _=>some (3,1)| .aK=>some (3,1)| .OK _=>some (3,1)| .done=>some (46,13)
 |_=>none
def aQ0(w:World)(b:Nat)(ty:Option (Nat×Nat))(cap:Nat)(c:bi):Prop:=
 ∃a t,w.heap[b]?=some (.cells a t (0,0))/\c.length<=a.size/\a.toList.take c.length=c/\∀p,ty=some p->t=p.1/\a.size=cap*p.2/\cap<=maxLen
structure bz(af:Nat)(F:Fx)(w:World)(m:Mem)(S:Wd):Prop where
 inj:∀r r' b,m.aV r=some b->m.aV r'=b->r=r'
 lies:∀r b,m.aV r=some b->af<=b/\aQ0 w b (eI r) (m.cap r) (aj m S r)
 none_:∀r,m.aV r=none->aj m S r=[]
 aB:F.Of m
section
variable{w w':World}{b cap:Nat}{ty:Option (Nat×Nat)}{cs:bi}
theorem aQ0.cell(h:aQ0 w b ty cap cs)(j:Nat)(v:Value)(c:cs[j]?=v):w.cell? ⟨b,j,none⟩=v:=by
 obtain⟨a,t,d,e,f,_⟩:=h;grind [cell_of_row]
theorem aQ0.frozen(h:aQ0 w b ty cap cs)(j:Nat):w.frozen? ⟨b,j,none⟩=false:=by
 obtain⟨a,t,c,_⟩:=h;grind [frozen_of_row]
theorem aQ0.lt(h:aQ0 w b ty cap cs):b<w.heap.size:=by
 let⟨a,t,c,_⟩:=h;grind
theorem aQ0.other(h:aQ0 w b ty cap cs)(c:w'.heap[b]?=w.heap[b]?):aQ0 w' b ty cap cs:=by
 let⟨a,t,d,e⟩:=h;exact⟨a,t,c.trans d,e⟩
theorem aQ0.set(h:aQ0 w b ty cap cs)(j:Nat)(v:Value):aQ0 (w.setCell ⟨b,j,none⟩ v) b ty cap (cs.set j v):=by
 let⟨a,t,c,hl,e,d⟩:=h;refine⟨a.setIfInBounds j v,t,ms w b j a t v c,ct8,?_,by simpa using d⟩;grind [List.take_set]
theorem aQ0.take(h:aQ0 w b ty cap cs)(n:Nat):aQ0 w b ty cap (cs.take n):=by
 let⟨a,t,c,e,f,d⟩:=h;refine⟨a,t,c,ci8,?_,d⟩;grind
theorem aQ0.aX1{e n:Nat}{p:Nat×Nat}{a:Nat}{c:Nat}{ty:Option (Nat×Nat)}(m:∀q,ty=some q->q=p)(h:w.ownsRow e p.1 p.2 (.slice (some ⟨a,0,none⟩) n c) n cs):e<=a/\aQ0 w a ty c cs:=by
 let⟨f,h⟩:=h;obtain⟨h,_⟩|⟨g,cap,d,i,j,k,o,r,s,l⟩:=h
 .cases h
 cases i;refine⟨j,d,p.1,k,?_,by rw[f];exact l,λq t=>?_⟩;all_goals grind
end
structure pe(m:Mem)(w:World)(m':Mem)(w':World):Prop where
 os:w'.os=w.os
 tape:w'.tape=w.tape
 output:w'.output=w.output
 size:w.heap.size<=w'.heap.size
 keep:∀b,b<w.heap.size->(∀r,m.aV r≠b)->w'.heap[b]?=w.heap[b]?
 old:∀r b,m'.aV r=some b->(∃r0,m.aV r0=b)\/w.heap.size<=b
theorem pe.refl(m:Mem)(w:World):pe m w m w:=⟨ii,ii,ii,rx _,λ_ _ _=>rfl,λr _ h=> .inl ⟨r,h⟩⟩
theorem pe.trans{m d e:Mem}{w f g:World}(h:pe m w d f)(k:pe d f e g):pe m w e g:=by
 refine⟨k.os.trans h.os,k.tape.trans h.tape,k.output.trans h.output,jm h.size k.size,λb c j=>?_,λr b c=>?_⟩
 .rw[k.keep b (uB c h.size) (λr l=>?_),h.keep b c j];obtain⟨i,a⟩|a:=h.old r b l
  all_goals grind
 obtain⟨i,a⟩|a:=k.old r b c
 .exact h.old i b a
 exact .inr (jm h.size a)
structure At(af:Nat)(F:Fx)(m0:Mem)(w0:World)(m:Mem)(w:World)(S:Wd):Prop where
 mv:pe m0 w0 m w
 bj:bz af F w m S
def To(a:Nat)(F:Fx)(b:Mem)(c:World)(S:Wd)(w:World):Prop:=∃m,At a F b c m w S
section
variable{af b j:Nat}{F:Fx}{w w':World}{m:Mem}{S S':Wd}{r:bH}{v:Value}
theorem bz.cell(R:bz af F w m S)(a:m.aV r=b)(c:(aj m S r)[j]?=v):w.cell? ⟨b,j,none⟩=v:=(R.lies r b a).2.cell j v c
theorem bz.frozen(R:bz af F w m S)(a:m.aV r=b)(j:Nat):w.frozen? ⟨b,j,none⟩=false:=(R.lies r b a).2.frozen j
theorem bz.lt(R:bz af F w m S)(a:m.aV r=b):b<w.heap.size:=(R.lies r b a).2.lt
section
variable(R:bz af F w m S)
include R
theorem bz.ge(a:m.aV r=b):af<=b:=(R.lies r b a).1
theorem bz.ne{a:bH}{c:Nat}(d:m.aV r=b)(f:m.aV a=c)(h:r≠a:=by simp):b≠c:=λe=>h (R.inj r a b d (e▸f))
theorem bz.has(h:aj m S r≠[]):∃b,m.aV r=some b:=by
 cases a:m.aV r with
 |none=>exact aX (R.none_ r a) h
 |some b=>exact⟨b,ii⟩
end
theorem bz.heap(R:bz af F w m S)(h:∀r b,m.aV r=some b->w'.heap[b]?=w.heap[b]?):bz af F w' m S:=
 ⟨R.inj,λr b a=>⟨(R.lies r b a).1,(R.lies r b a).2.other (h r b a)⟩,R.none_,R.aB⟩
theorem bz.drew(R:bz af F w m S):bz af F w.drew m S:=R.heap λ_ _ _=>rfl
theorem bz.below(R:bz af F w m S)(h:Below w.heap.size w w'):bz af F w' m S:=R.heap λ_ b a=>h.block b (R.lt a)
theorem bz.congr(R:bz af F w m S)(h:∀r,aj m S' r=aj m S r):bz af F w m S':=
 ⟨R.inj,λr b a=>by rw[h r];exact R.lies r b a,λr c=>by rw[h r];exact R.none_ r c,R.aB⟩
theorem bz.set(R:bz af F w m S)(d:m.aV r=b)(f:aj m S' r=(aj m S r).set j v)(g:∀a,a≠r->aj m S' a=aj m S a):bz af F (w.setCell ⟨b,j,none⟩ v) m S':=by
 refine⟨R.inj,λa h c=>?_,λa i=>?_,R.aB⟩
 .by_cases e:a=r
  .subst e;obtain rfl:h=b:=by rw[d]at c;exact(mx c).symm
   rw[f];exact⟨(R.lies _ _ d).1,(R.lies _ _ d).2.set j v⟩
  rw[g a e];exact⟨(R.lies _ _ c).1,(R.lies _ _ c).2.other (fQ (R.ne c d e))⟩
 grind [none_]
def Mem.eG(m:Mem)(r:bH)(b:Option Nat)(c:Nat):Mem:=⟨λa=>if a=r then b else m.aV a,λa=>if a=r then c else m.cap a⟩
theorem Mem.dL(m:Mem)(r:bH)(b:Option Nat)(c:Nat):(m.eG r b c).aV r=b:=by simp[Mem.eG]
theorem Mem.bN{m:Mem}{r a:bH}{b:Option Nat}{c:Nat}(h:a≠r):(m.eG r b c).aV a=m.aV a:=by simp[Mem.eG,h]
theorem Mem.xM(m:Mem)(r:bH)(b:Option Nat)(c:Nat):(m.eG r b c).cap r=c:=by simp[Mem.eG]
theorem Mem.rH{m:Mem}{r a:bH}{b:Option Nat}{c:Nat}(h:a≠r):(m.eG r b c).cap a=m.cap a:=by simp[Mem.eG,h]
theorem Mem.qv(m:Mem){r a:bH}(b:Option Nat)(c n:Nat)(h:a≠r):(m.eG r b c).cU a n=m.cU a n:=by simp[Mem.cU,Mem.eG,h]
theorem Mem.uH(m:Mem)(r:bH)(b c n:Nat):(m.eG r b c).cU r n=.slice (some ⟨b,0,none⟩) n c:=by simp[Mem.cU,Mem.eG]
theorem Mem.sL(m:Mem){r a:bH}(b:Option Nat)(c:Nat)(h:a≠r):(m.eG r b c).ptr a=m.ptr a:=by simp[Mem.ptr,Mem.eG,h]
def bH.loose:bH->Bool
 | .au| .eU _| .pl0 _| .aO| .dQ| .cache _| .aK| .list| .UB| .done| .ops _| .cases _ _| .aH _| .aq _| .bA _| .OK _=>true
 |_=>false
theorem Fx.Of.eG(h:F.Of m)(a:r.loose)(o:Option Nat)(c:Nat):F.Of (m.eG r o c):=by
 constructor<;>(rw[Mem.bN (by rintro rfl;cases a)];first|exact h.aQ|exact h.gs|exact h.dB|exact h.ax|exact h.dY|exact h.ef|exact h.aS|exact h.bM|exact h.ah|exact h.Eg|exact h.aC|exact h.bV|exact h.gN)
theorem bz.row(R:bz af F w m S)(z:r.loose){i:bH}{s c:Nat}{o:Option Nat}(p:m.aV i=s)(A:i≠r)(t:∀g,o=some g->af<=g/\aQ0 w g (eI r) c (aj (m.eG r o c) S' r)/\∀a f,a≠r->m.aV a=some f->f≠g)(B:o=none->aj (m.eG r o c) S' r=[])(C:aj (m.eG r o c) S' i=(aj m S i).set j v)(y:∀a,a≠r->a≠i->aj (m.eG r o c) S' a=aj m S a):bz af F (w.setCell ⟨s,j,none⟩ v) (m.eG r o c) S':=by
 refine⟨λu x f k l=>?_,λa f n=>?_,λa q=>?_,R.aB.eG z _ _⟩
 .by_cases d:u=r<;>by_cases h:x=r
  .rw[d,h]
  .subst d;rw[Mem.dL]at k;rw[Mem.bN h]at l;exact aX ii ((t f k).2.2 x f h l)
  .subst h;rw[Mem.dL]at l;rw[Mem.bN d]at k;exact aX ii ((t f l).2.2 u f d k)
  rw[Mem.bN d]at k;rw[Mem.bN h]at l;exact R.inj u x f k l
 .by_cases d:a=r
  .subst d;rw[Mem.dL]at n;let⟨k,l,D⟩:=t f n;rw[Mem.xM];exact⟨k,l.other (fQ (dE (D i s A p)))⟩
  rw[Mem.bN d]at n;rw[Mem.rH d];by_cases h:a=i
  .subst h;obtain rfl:f=s:=by rw[p]at n;exact(mx n).symm
   rw[C];exact⟨(R.lies _ _ p).1,(R.lies _ _ p).2.set j v⟩
  rw[y a d h];exact⟨(R.lies _ _ n).1,(R.lies _ _ n).2.other (fQ (R.ne n p h))⟩
 by_cases d:a=r
 .subst d;rw[Mem.dL]at q;exact B q
 have h:a≠i:=λe=>by rw[Mem.bN d,e,p]at q;cases q
 rw[Mem.bN d]at q;rw[y a d h];exact R.none_ a q
theorem bz.owns(R:bz af F w m S){p:Nat×Nat}(i:eI r=p)(e:0<p.2){n:Nat}(a:(aj m S r).length=n*p.2):w.ownsRow af p.1 p.2 (m.cU r n) n (aj m S r):=by
 cases c:m.aV r with
 |none=>
  have:=R.none_ r c;rw[this]at a ⊢
  have:n=0:=by
   obtain h|h:=ay6 n
   .exact h
   have:=Nat.mul_pos h e;simp at a;omega
  grind [Mem.j6,World.ownsRow_nil]
 |some b=>
  let⟨k,d,t,l,f,o,q⟩:=R.lies r b c;let⟨rfl,g,s⟩:=q p i;rw[Mem.de c];refine⟨a,.inr ⟨b,m.cap r,d,ii,k,l,?_,s,g,by rw[<-a];exact o⟩⟩;rw[a,g]at f;exact Nat.le_of_mul_le_mul_right f e
variable{m0:Mem}{w0:World}
theorem At.refl(R:bz af F w m S):At af F m w m w S:=⟨.refl _ _,R⟩
theorem At.cont{a:Mem}{c:World}{S1:Wd}(A:At af F m0 w0 m w S)(T:At af F m w a c S1):At af F m0 w0 a c S1:=⟨A.mv.trans T.mv,T.bj⟩
theorem At.to(A:At af F m0 w0 m w S):To af F m0 w0 S w:=⟨m,A⟩
theorem bz.to(R:bz af F w m S):To af F m w S w:=⟨m,.refl R⟩
theorem At.drew(A:At af F m0 w0 m w S):At af F m0 w0 m w.drew S:=⟨⟨A.mv.os,A.mv.tape,A.mv.output,A.mv.size,A.mv.keep,A.mv.old⟩,A.bj.drew⟩
theorem At.alloc(A:At af F m0 w0 m w S)(o:Obj):At af F m0 w0 m (w.alloc o) S:=by
 refine⟨A.mv.trans ⟨ii,ii,ii,sX,λb a _=>gf w o b a,λr b h=> .inl ⟨r,h⟩⟩,A.bj.heap λr b a=>gf w o b (A.bj.lt a)⟩
theorem At.other(A:At af F m0 w0 m w S){a:Addr}(d:∀r,m.aV r≠a.block)(f:w0.heap.size<=a.block)(v:Value):At af F m0 w0 m (w.setCell a v) S:=by
 refine⟨⟨A.mv.os,A.mv.tape,A.mv.output,by simpa[World.setCell]using A.mv.size,λb c h=>?_,A.mv.old⟩,A.bj.heap λr b c=>fQ (λe=>d r (e▸c))⟩;rw[fQ oX];exact A.mv.keep b c h
theorem pe.setCell{a:Addr}(h:pe m0 w0 m w)(c:m.aV r=a.block)(v:Value):pe m0 w0 m (w.setCell a v):=by
 refine⟨h.os,h.tape,h.output,by simpa[World.setCell]using h.size,λb d e=>?_,h.old⟩;grind [Go.RowKit.Below.heap_setCell,keep,old]
theorem At.set(A:At af F m0 w0 m w S)(c:m.aV r=b)(d:aj m S' r=(aj m S r).set j v)(e:∀a,a≠r->aj m S' a=aj m S a):At af F m0 w0 m (w.setCell ⟨b,j,none⟩ v) S':=
 ⟨A.mv.setCell (r:=r) c v,A.bj.set c d e⟩
theorem At.congr(A:At af F m0 w0 m w S)(h:∀r,aj m S' r=aj m S r):At af F m0 w0 m w S':=⟨A.mv,A.bj.congr h⟩
theorem At.heap(A:At af F m0 w0 m w S)(a:Below w.heap.size w w'):At af F m0 w0 m w' S:=
 ⟨A.mv.trans ⟨a.os,a.tape,a.output,a.size,λb c _=>a.block b c,λr b h=> .inl ⟨r,h⟩⟩,A.bj.below a⟩
section
variable(A:At af F m0 w0 m w S)(hl:r.loose){rp:bH}{bp c g n:Nat}{p:Nat×Nat}{xs:bi}(nI:∀q,eI r=some q->q=p)(hp:m.aV rp=bp)(cM:rp≠r)(hg:w.grownBy w' (m.aV r))(hown:w'.ownsRow af p.1 p.2 (.slice (some ⟨g,0,none⟩) n c) n xs)(bE:m.aV r=g\/w.heap.size<=g)(jM:aj (m.eG r g c) S' r=xs)(oE:aj (m.eG r g c) S' rp=(aj m S rp).set j (.slice (some ⟨g,0,none⟩) n c))
include A hl nI hp cM hg hown bE jM oE
theorem At.ar7(y:∀a,a≠r->a≠rp->aj (m.eG r g c) S' a=aj m S a\/(m.aV a≠none/\∀d,m.aV a=some d->aQ0 w d (eI a) (m.cap a) (aj (m.eG r g c) S' a))):At af F m0 w0 (m.eG r g c) (w'.setCell ⟨bp,j,none⟩ (.slice (some ⟨g,0,none⟩) n c)) S':=by
 have s:∀a d,a≠r->m.aV a=some d->d≠g:=by
  intro a d o k e;subst e;obtain h|h:=bE
  .exact o (A.bj.inj a r _ k h)
  exact aX (A.bj.lt k) oX
 have t:∀a d,a≠r->m.aV a=some d->w'.heap[d]?=w.heap[d]?:=λa d o k=>hg.block d (A.bj.lt k) (λe=>o (A.bj.inj a r _ k e.symm))
 obtain⟨B,C⟩:=bL6;have D:pe m w (m.eG r g c) w':=by refine⟨hg.os,hg.tape,hg.output,hg.size,λb z E=>hg.block b z (λe=>E r e.symm),λa b z=>?_⟩;grind [Mem.dL,Mem.bN]
 refine⟨(A.mv.trans D).setCell (r:=rp) ct6 _,⟨λu x d o k=>?_,λa d i=>?_,λa q=>?_,A.bj.aB.eG hl _ _⟩⟩
 .by_cases f:u=r<;>by_cases l:x=r
  .rw[f,l]
  .subst f;rw[Mem.dL]at o;rw[Mem.bN l]at k
   cases o;exact aX ii (s x _ l k)
  .subst l;rw[Mem.dL]at k;rw[Mem.bN f]at o
   cases k;exact aX ii (s u _ f o)
  rw[Mem.bN f]at o;rw[Mem.bN l]at k;exact A.bj.inj u x d o k
 .by_cases f:a=r
  .subst f;rw[Mem.dL]at i
   cases i;rw[Mem.xM,jM];exact⟨B,C.other (fQ (dE (s rp bp cM hp)))⟩
  rw[Mem.bN f]at i;rw[Mem.rH f];by_cases l:a=rp
  .subst l;obtain rfl:d=bp:=by rw[hp]at i;exact(mx i).symm
   rw[oE];exact⟨(A.bj.lies _ _ hp).1,((A.bj.lies _ _ hp).2.other (t _ _ f hp)).set j _⟩
  obtain h|h:=y a f l
  .rw[h];refine⟨(A.bj.lies _ _ i).1,((A.bj.lies _ _ i).2.other (t _ _ f i)).other (fQ (A.bj.ne i hp l))⟩
  exact⟨(A.bj.lies _ _ i).1,((h.2 d i).other (t _ _ f i)).other (fQ (A.bj.ne i hp l))⟩
 have f:a≠r:=λe=>by rw[e,Mem.dL]at q;cases q
 have l:a≠rp:=λe=>by rw[Mem.bN f,e,hp]at q;cases q
 rw[Mem.bN f]at q;obtain h|h:=y a f l
 .rw[h];exact A.bj.none_ a q
 exact aX q h.1
theorem At.row(d:∀a,a≠r->a≠rp->aj (m.eG r g c) S' a=aj m S a):At af F m0 w0 (m.eG r g c) (w'.setCell ⟨bp,j,none⟩ (.slice (some ⟨g,0,none⟩) n c)) S':=
 A.ar7 hl nI hp cM hg hown bE jM oE λa e f=> .inl (d a e f)
end
theorem At.nil(A:At af F m0 w0 m w S)(i:r.loose){a:bH}{f:Nat}(hp:m.aV a=f)(cM:a≠r)(k:aj (m.eG r none 0) S' r=[])(l:aj (m.eG r none 0) S' a=(aj m S a).set j v)(n:∀c,c≠r->c≠a->aj (m.eG r none 0) S' c=aj m S c):At af F m0 w0 (m.eG r none 0) (w.setCell ⟨f,j,none⟩ v) S':=by
 refine⟨(A.mv.trans ⟨ii,ii,ii,rx _,λ_ _ _=>rfl,λc b d=>?_⟩).setCell (r:=a) ct6 _,A.bj.row i hp cM (λg h=>ck3) (λ_=>k) l n⟩;by_cases e:c=r
 .subst e;rw[Mem.dL]at d;cases d
 rw[Mem.bN e]at d;exact .inl ⟨_,d⟩
end
abbrev iD(o:cu)(a:Option Addr)(c:Nat):Obj:=.cells #[I o.ai,I o.ch,I o.n,I o.v,.slice a o.cases.length c,B o.dG] 49
abbrev iY(F:Fx)(g:Nat)(o:cu)(a:Option Addr)(n c:Nat):Obj:=.cells #[.pointer (some ⟨F.aQ,0,none⟩),I g,I o.ai,I o.ch,I o.n,I o.v,.slice a n c,B o.dG] 173
abbrev eX(z:Int):Prop:= -1000000000<=z/\z<=1000000000
abbrev eL(v:Value)(Q:World->Prop):Ending->World->Prop:=λe a=>e=.returned v/\Q a
abbrev ee:=eL (.tuple #[])
abbrev oV:=eL (.bool true)
section
variable{af:Nat}{F:Fx}{w:World}{m:Mem}{S:Wd}(R:bz af F w m S)
include R
theorem bz.pB:F.aQ<w.heap.size/\F.gs<w.heap.size/\F.aQ≠F.gs/\F.gs≠F.aQ:=⟨R.lt R.aB.aQ,R.lt R.aB.gs,R.ne R.aB.aQ R.aB.gs (by simp),R.ne R.aB.gs R.aB.aQ (by simp)⟩
theorem bz.zQ{g h i:bH}{a b c:Nat}(d:m.aV g=a)(e:m.aV h=b)(f:m.aV i=c)(j:g≠h:=by simp)(k:g≠i:=by simp)(l:h≠i:=by simp):a<w.heap.size/\b<w.heap.size/\c<w.heap.size/\a≠b/\a≠c/\b≠a/\b≠c/\c≠a/\c≠b:=⟨R.lt d,R.lt e,R.lt f,R.ne d e j,R.ne d f k,(R.ne d e j).symm,R.ne e f l,(R.ne d f k).symm,(R.ne e f l).symm⟩
end
abbrev bR(F:Fx):Value:=.pointer (some ⟨F.aQ,0,none⟩)
abbrev NC(a:Option Addr)(b c:Nat):Array Value:=#[.slice a b c,I 0,I 0,I 0,B false,I 0,B false,I (-1),I (-1),I (-1),I 0,I 0,I 0,I (-1),I (-1),I 0,I (-1),I 0,B false,I 0,.slice none 0 0,.slice none 0 0,.slice none 0 0,.slice none 0 0,I 0]
abbrev zT:Array Value:=#[I 0,I 0,I 0,.slice none 0 0,.slice none 0 0,.slice none 0 0,.slice none 0 0,.slice none 0 0,I 0,.slice none 0 0,I 0,.slice none 0 0]
open Mach
section
variable{α:Type}{l:List α}
theorem mO{i:Int}{x:α}(h:idx l i=x):∃j:Nat,i=j/\j<l.length/\l[j]?=x:=by
 grind [idx]
theorem iN{i:Int}(h:¬(0<=i/\i<l.length)):idx l i=none:=by
 grind [idx]
theorem eR{j:Nat}:idx l (j:Int)=l[j]?:=by simp[idx]
theorem bv8{j:Nat}{x:α}(h:j<l.length):Mach.put l (j:Int) x=l.set j x:=by simp[Mach.put,h]
end
section
variable{af:Nat}{F:Fx}{w w0:World}{m m0:Mem}{S:Wd}
section
variable(R:bz af F w m S)
include R
theorem bz.cW(q:Nat){v:Value}(h:(aj m S .aQ)[q]?=v):w.cell? ⟨F.aQ,q,none⟩=v:=R.cell R.aB.aQ h
theorem bz.dM:w.cell? ⟨F.aQ,2,none⟩=I S.av:=R.cW 2 rfl
theorem bz.eu:w.cell? ⟨F.aQ,3,none⟩=some (.slice (some ⟨F.gs,0,none⟩) S.gs.length (m.cap .gs)):=by
 rw[<-Mem.de R.aB.gs];exact R.cW 3 rfl
theorem bz.nJ:w.cell? ⟨F.aQ,4,none⟩=some (.pointer (some ⟨F.dB,0,none⟩)):=by
 rw[<-Mem.lz R.aB.dB];exact R.cW 4 rfl
theorem bz.qx:w.cell? ⟨F.aQ,5,none⟩=m.cU .au S.au.length:=R.cW 5 rfl
theorem bz.Cv:w.cell? ⟨F.aQ,6,none⟩=m.cU .aO S.aO.length:=R.cW 6 rfl
theorem bz.pC:w.cell? ⟨F.aQ,7,none⟩=some (.pointer (some ⟨F.dY,0,none⟩)):=by
 rw[<-Mem.lz R.aB.dY];exact R.cW 7 rfl
theorem bz.dR:w.cell? ⟨F.aQ,8,none⟩=some (.pointer (some ⟨F.ef,0,none⟩)):=by
 rw[<-Mem.lz R.aB.ef];exact R.cW 8 rfl
theorem bz.ax7:w.cell? ⟨F.aQ,9,none⟩=some (.slice (some ⟨F.ah,0,none⟩) S.ah.length (m.cap .ah)):=by
 rw[<-Mem.de R.aB.ah];exact R.cW 9 rfl
theorem bz.tf:w.cell? ⟨F.aQ,10,none⟩=some (.pointer (some ⟨F.Eg,0,none⟩)):=by
 rw[<-Mem.lz R.aB.Eg];exact R.cW 10 rfl
theorem bz.Us:w.cell? ⟨F.aQ,11,none⟩=some (.pointer (some ⟨F.gN,0,none⟩)):=by
 rw[<-Mem.lz R.aB.gN];exact R.cW 11 rfl
theorem bz.Vo:w.cell? ⟨F.aQ,12,none⟩=m.cU .UB S.UB.length:=R.cW 12 rfl
theorem bz.NF:w.cell? ⟨F.aQ,13,none⟩=m.cU .done S.done.length:=R.cW 13 rfl
theorem bz.sM:w.cell? ⟨F.dY,0,none⟩=m.cU .dQ S.aq.length:=R.cell R.aB.dY (j:=0) ii
theorem bz.Bu:w.cell? ⟨F.dB,0,none⟩=some (.slice (some ⟨F.ax,0,none⟩) S.ax.length (m.cap .ax)):=by
 rw[<-Mem.de R.aB.ax];exact R.cell R.aB.dB (j:=0) ii
theorem bz.xN:w.cell? ⟨F.ef,0,none⟩=some (.slice (some ⟨F.aS,0,none⟩) S.ef.aS.length (m.cap .aS)):=by
 rw[<-Mem.de R.aB.aS];exact R.cell R.aB.ef (j:=0) ii
theorem bz.yq:w.cell? ⟨F.ef,1,none⟩=some (.slice (some ⟨F.bM,0,none⟩) S.ef.bM.length (m.cap .bM)):=by
 rw[<-Mem.de R.aB.bM];exact R.cell R.aB.ef (j:=1) ii
end
theorem wR(m:Mem)(g:Nat)(x:bI):(gk m g x).length=25:=rfl
section
variable(R:bz af F w m S){j:Nat}
include R
theorem bz.g{x:bI}(b:S.gs[j]?=x)(q:Nat)(v:Value)(a:(gk m j x)[q]?=v):w.cell? ⟨F.gs,j*25+q,none⟩=v:=by
 have h:=fq (f:=gk m) (k:=25) (λ_ _=>rfl) S.gs 0 j q x b (by exact(um a));rw[wl,a]at h;exact R.cell R.aB.gs h
theorem bz.g0{x:bI}(a:S.gs[j]?=x):w.cell? ⟨F.gs,j*25,none⟩=m.cU (.ops j) x.ops.length:=R.g a 0 _ ii
theorem bz.s{x:fE}(b:S.ah[j]?=x)(q:Nat)(v:Value)(a:(mg j x)[q]?=v):w.cell? ⟨F.ah,j*7+q,none⟩=v:=by
 have h:=fq (f:=mg) (k:=7) (λ_ _=>rfl) S.ah 0 j q x b (um a);rw[wl,a]at h;exact R.cell R.aB.ah h
theorem bz.s0{x:fE}(a:S.ah[j]?=x):w.cell? ⟨F.ah,j*7,none⟩=B x.cK:=R.s a 0 _ ii
theorem bz.one{a:Int}{b:Bool}(h:S.ax[j]?=(a,b)):w.cell? ⟨F.ax,j*2,none⟩=I a/\w.cell? ⟨F.ax,j*2+1,none⟩=B b:=⟨R.cell R.aB.ax (fq (f:=ry) (k:=2) (λ_ _=>rfl) S.ax 0 j 0 _ h (by omega)),R.cell R.aB.ax (fq (f:=ry) (k:=2) (λ_ _=>rfl) S.ax 0 j 1 _ h (by omega))⟩
theorem bz.thing{x:nf}(h:S.ef.aS[j]?=x):w.cell? ⟨F.aS,j*3,none⟩=I x.pX/\w.cell? ⟨F.aS,j*3+1,none⟩=I x.behind/\w.cell? ⟨F.aS,j*3+2,none⟩=I x.ahead:=by
 have a:=λq b=>fq (f:=oD) (k:=3) (λ_ _=>rfl) S.ef.aS 0 j q _ h b
 exact⟨R.cell R.aB.aS (a 0 oX),R.cell R.aB.aS (a 1 oX),R.cell R.aB.aS (a 2 oX)⟩
theorem bz.line{x:Ct}(h:S.ef.bM[j]?=x):w.cell? ⟨F.bM,j*3,none⟩=I x.first/\w.cell? ⟨F.bM,j*3+1,none⟩=I x.last/\w.cell? ⟨F.bM,j*3+2,none⟩=I x.count:=by
 have a:=λq b=>fq (f:=rG) (k:=3) (λ_ _=>rfl) S.ef.bM 0 j q _ h b
 exact⟨R.cell R.aB.bM (a 0 oX),R.cell R.aB.bM (a 1 oX),R.cell R.aB.bM (a 2 oX)⟩
end
end
theorem tE{P:Program}(w:World)(b o:Nat)(a:TypeId)(cells:dl)(d:(P.info? a).map (·.size)=cells.size)(e:∀(j:Nat),j<cells.size->(w.cell? ⟨b,o+j,none⟩).isSome)(f:∀(j:Nat),j<cells.size->w.frozen? ⟨b,o+j,none⟩=false)(g:cells.all (·.oneCell')):(storeVar a ⟨b,o,none⟩ (.agg cells)).run P w=.ok () (w.setCells b o cells.toList):=by
 have:=run_storeCells_cells (P:=P) b o cells.toList 0 w (by simpa using e) (by simpa using f) (λv h=>(Array.all_eq_true_iff_forall_mem.1 g) v (by simpa using h))
 cases c:P.info? a with
 |none=>simp[c]at d
 |some i=>
  simp[storeVar,sizeOf,typeInfo,c,Value.cells,by simp[c]at d;omega,this]
theorem JS{P:Program}{c:Array Oper}{rest:List Oper}{o:Oper}{a:Act}{w:World}{Q:Exit->Act->World->Prop}(e:o.guard=none)(d:TypeId)(x y:Operand)(f:o.op=.store d x y)(b off:Nat)(cells:dl)(g:a.eval x=.pointer (some ⟨b,off,none⟩))(i:a.eval y=.agg cells)(k:(P.info? d).map (·.size)=cells.size)(l:∀(j:Nat),j<cells.size->(w.cell? ⟨b,off+j,none⟩).isSome)(m:∀(j:Nat),j<cells.size->w.frozen? ⟨b,off+j,none⟩=false)(n:cells.all (·.oneCell'))(h:wpList P c Q rest (a.put o.dst undef) (w.setCells b off cells.toList)):wpList P c Q (o::rest) a w:=by
 refine ae2 e λ_ p=>?_
 unfold Oper.wp execOp;simp[f,g,i,Instr.storeAt,Instr.sureAddr,ak2,tE w b off d cells k l m n];exact p _ _ h
theorem getElem?_set_self'{α:Type}{l:List α}{j:Nat}{x y:α}(h:l[j]?=x):(l.set j y)[j]?=y:=by
 grind
theorem az{S:Wd}{j:Nat}{x y:bI}(h:S.gs[j]?=x):(S.ay j y).gs[j]?=y:=getElem?_set_self' h
theorem Cw{S:Wd}{j k:Nat}{y:bI}(h:j≠k):(S.ay j y).gs[k]?=S.gs[k]?:=by simp[Wd.ay,h]
theorem NG{S:Wd}{j:Nat}{x y:fE}(h:S.ah[j]?=x):(S.cJ j y).ah[j]?=y:=getElem?_set_self' h
theorem aA{S:Wd}{j:Nat}{x y:bI}:(S.ay j x).ay j y=S.ay j y:=cs4
section
variable{af:Nat}{F:Fx}{w w0:World}{m m0:Mem}{S:Wd}
theorem At.eq{S':Wd}(A:At af F m0 w0 m w S)(h:S=S'):At af F m0 w0 m w S':=h▸A
theorem At.aI{w':World}(A:At af F m0 w0 m w S)(a:w'.heap=w.heap:=by rfl)(c:w'.os=w.os:=by rfl)(d:w'.tape=w.tape:=by rfl)(e:w'.output=w.output:=by rfl):At af F m0 w0 m w' S:=
 ⟨⟨c.trans A.mv.os,d.trans A.mv.tape,e.trans A.mv.output,by rw[a];exact A.mv.size,λb f g=>by rw[a];exact A.mv.keep b f g,A.mv.old⟩,A.bj.heap λ_ _ _=>by rw[a]⟩
theorem At.drewN(A:At af F m0 w0 m w S)(n:Nat):At af F m0 w0 m (w.drewN n) S:=A.aI
theorem bz.shape(R:bz af F w m S){r:bH}{n:Nat}(h:aj m S r=[]->n=0):∃a c,m.cU r n=.slice a n c:=by
 cases d:m.aV r with
 |none=>rw[h (R.none_ r d)];exact⟨none,0,Mem.j6 d⟩
 |some b=>exact⟨_,_,Mem.de d⟩
theorem bz.eS(R:bz af F w m S):af<=w.heap.size:=jm (R.ge R.aB.aQ) (ay5 (R.lt R.aB.aQ))
theorem yr{w a:World}{row:Option Nat}(c:w.grownBy a row){b j:Nat}{v:Value}(h:w.cell? ⟨b,j,none⟩=v)(d:row≠b):a.cell? ⟨b,j,none⟩=v:=
 c.cell h (λe=>d e.symm)
theorem uI{w a:World}{row:Option Nat}(c:w.grownBy a row){b j:Nat}(h:w.frozen? ⟨b,j,none⟩=false)(d:b<w.heap.size)(e:row≠b):a.frozen? ⟨b,j,none⟩=false:=by
 grind [Go.World.frozen?_of_block,World.grownBy.block]
theorem ou{w a:World}{o:Obj}{af e size n:Nat}{v:Value}{b:bi}(h:w.ownsRow af e size v n b)(d:a.heap=(w.alloc o).heap):a.ownsRow af e size v n b:=by
 have c:=h.alloc o;unfold World.ownsRow at c ⊢;rw[d];exact c
section
variable{w2 W3 w3:World}{o:Obj}{row:Option Nat}{b j:Nat}
theorem fW{v:Value}(a:W3.grownBy w3 row)(h:w2.cell? ⟨b,j,none⟩=v)(c:W3.heap=(w2.alloc o).heap)(d:row≠b):w3.cell? ⟨b,j,none⟩=v:=by
 have e:=ba0 w2 _ h;grind [yr,Go.World.cell?_of_block,Go.RowKit.Below.heap_alloc]
theorem fN(a:W3.grownBy w3 row)(h:w2.frozen? ⟨b,j,none⟩=false)(e:b<w2.heap.size)(c:W3.heap=(w2.alloc o).heap)(d:row≠b):w3.frozen? ⟨b,j,none⟩=false:=by
 refine uI a ?_ (by rw[c];show b<(w2.heap.push o).size;rw[Array.size_push];omega) d;grind [Go.World.frozen?_of_block,Go.RowKit.Below.heap_alloc]
end
theorem bz.NH(R:bz af F w m S){r:bH}{p:Nat×Nat}{b:Nat}(d:eI r=p)(e:0<p.2)(a:m.aV r=b):(aj m S r).length<=m.cap r*p.2:=by
 let⟨_,c,t,f,g,h,i⟩:=R.lies r b a;grind
theorem bz.jv(R:bz af F w m S){r a:bH}{b:Nat}(c:m.aV a=b)(h:r≠a):m.aV r≠b:=λe=>h (R.inj r a b e c)
theorem At.g(A:At af F m0 w0 m w S){j:Nat}{x:bI}(a:S.gs[j]?=x)(y:bI){q:Nat}{v:Value}(c:q<25:=by omega)(d:gk m j y=(gk m j x).set q v:=by rfl)(b:y.ops=x.ops:=by rfl)(l:y.aH=x.aH:=by rfl)(n:y.aq=x.aq:=by rfl)(o:y.bA=x.bA:=by rfl)(p:y.OK=x.OK:=by rfl):At af F m0 w0 m (w.setCell ⟨F.gs,j*25+q,none⟩ v) (S.ay j y):=by
 refine A.set A.bj.aB.gs (oC (f:=gk m) (k:=25) (λ_ _=>rfl) S.gs 0 j q x y v a c (by simpa using d)) ?_;intro r s;have t:∀g,(S.gs.set j y)[g]?=if g=j then some y else S.gs[g]?:=cp2
 cases r<;>first|exact aX ii s|rfl|(simp[aj,Wd.ay];done)|skip
 all_goals
  simp[aj,Wd.ay,t];first
  |(rename_i k;by_cases e:k=j
    .subst e;simp[a,b,l,n,o,p];done
    .simp[aE e];done)
  |(rename_i k i;by_cases e:k=j
    .subst e;simp[a,b];done
    simp[aE e];done)
section
variable(A:At af F m0 w0 m w S)
include A
theorem At.s{j:Nat}{x:fE}(a:S.ah[j]?=x)(y:fE){q:Nat}{v:Value}(b:q<7)(c:mg j y=(mg j x).set q v):At af F m0 w0 m (w.setCell ⟨F.ah,j*7+q,none⟩ v) (S.cJ j y):=by
 refine A.set A.bj.aB.ah (oC (f:=mg) (k:=7) (λ_ _=>rfl) S.ah 0 j q x y v a b (by simpa using c)) ?_;intro d e
 cases d<;>first|exact aX ii e|rfl|(simp[aj,Wd.cJ])
theorem At.one{j q:Nat}{x:Int×Bool}(h:S.ax[j]?=x)(y:Int×Bool)(a:q<2){v:Value}(b:ry 0 y=(ry 0 x).set q v):At af F m0 w0 m (w.setCell ⟨F.ax,j*2+q,none⟩ v) {S with ax:=S.ax.set j y}:=by
 refine A.set A.bj.aB.ax (oC (f:=ry) (k:=2) (λ_ _=>rfl) S.ax 0 j q x y v h a (by simpa[ry]using b)) ?_;exact cc9
theorem At.thing{j q:Nat}{x:nf}(h:S.ef.aS[j]?=x)(y:nf)(a:q<3){v:Value}(b:oD 0 y=(oD 0 x).set q v):At af F m0 w0 m (w.setCell ⟨F.aS,j*3+q,none⟩ v) {S with ef:=S.ef.fJ j y}:=by
 refine A.set A.bj.aB.aS (oC (f:=oD) (k:=3) (λ_ _=>rfl) S.ef.aS 0 j q x y v h a (by simpa[oD]using b)) ?_;intro c d
 cases c<;>first|exact aX ii d|rfl|(simp[aj,er.fJ])
theorem At.line{j q:Nat}{x:Ct}(h:S.ef.bM[j]?=x)(y:Ct)(a:q<3){v:Value}(b:rG 0 y=(rG 0 x).set q v):At af F m0 w0 m (w.setCell ⟨F.bM,j*3+q,none⟩ v) {S with ef:=S.ef.fe j y}:=by
 refine A.set A.bj.aB.bM (oC (f:=rG) (k:=3) (λ_ _=>rfl) S.ef.bM 0 j q x y v h a (by simpa[rG]using b)) ?_;intro c d
 cases c<;>first|exact aX ii d|rfl|(simp[aj,er.fe])
end
theorem At.av(A:At af F m0 w0 m w S)(n:Int):At af F m0 w0 m (w.setCell ⟨F.aQ,2,none⟩ (I n)) {S with av:=n}:=by
 refine A.set A.bj.aB.aQ ii ?_;exact cg5
end
section
variable{af:Nat}{F:Fx}{w:World}{m:Mem}{S:Wd}(R:bz af F w m S){j:Nat}
include R
theorem bz.ps{x:bI}(a:S.gs[j]?=x)(q:Nat){v:Value}(b:(gk m j x)[q]?=v):w.cell? ⟨F.gs,j*25+q,none⟩=v/\w.frozen? ⟨F.gs,j*25+q,none⟩=false:=⟨R.g a q v b,R.frozen R.aB.gs _⟩
theorem bz.ssX{x:fE}(a:S.ah[j]?=x)(q:Nat)(v:Value)(b:(mg j x)[q]?=v):w.cell? ⟨F.ah,j*7+q,none⟩=v/\w.frozen? ⟨F.ah,j*7+q,none⟩=false:=⟨R.s a q v b,R.frozen R.aB.ah _⟩
end
theorem iZ{α:Type}{f f':Nat->α->bi}{k:Nat}(a:∀i x,(f i x).length=k):∀(l:List α) (i g j:Nat) (x y:α) (v:Value),l[g]?=x->j<k->(∀n z,n≠i+g->f' n z=f n z)->f' (i+g) y=(f (i+g) x).set j v->bT f' i (l.set g y)=(bT f i l).set (g*k+j) v
 | [],_,_,_,_,_,_,h,_,_,_=>cj5
 |z::l,i,0,j,x,y,v,h,c,b,hf=>by simp[ro,bT,Nat.zero_mul,wl];grind [iI]
 |z::l,i,g+1,j,x,y,v,h,c,b,hf=>by simp[qr,bT];rw[List.set_append_right _ _ (by rw[a,al9];omega),a,show(g+1)*k+j-k=g*k+j by rw[al9];omega,iZ a l (i+1) g j x y v ck0 c (λn z d=>b n z oX) cr7,b i z oX]
section
variable{af:Nat}{F:Fx}{w w0 w':World}{m m0:Mem}{S:Wd}
theorem cX{S:Wd}{i:Nat}{x y:bI}(h:S.gs[i]?=x)(g:Nat):(S.gs.set i y)[g]?=if g=i then some y else S.gs[g]?:=by
 grind
theorem nj(m:Mem){j k:Nat}{r:bH}(a:r=.aH j\/r=.aq j\/r=.bA j\/r=.OK j){o:Option Nat}{c:Nat}{x:bI}(h:k≠j):gk (m.eG r o c) k x=gk m k x:=by
 have b:bH.ops k≠r:=by rcases a with rfl|rfl|rfl|rfl<;>simp
 obtain rfl|rfl|rfl|rfl:=a
 all_goals
  simp[gk,Mem.qv _ _ _ _ b,Mem.cU,Mem.eG];simp[h]
theorem iz{j:Nat}{x y:bI}{r:bH}(p:r=.aH j\/r=.aq j\/r=.bA j\/r=.OK j)(a:S.gs[j]?=x)(o:Option Nat)(c:Nat)(d:y.ops=x.ops)(f:y.aH=x.aH\/r=.aH j)(g:y.aq=x.aq\/r=.aq j)(h:y.bA=x.bA\/r=.bA j)(l:y.OK=x.OK\/r=.OK j):∀b,b≠r->b≠ .gs->aj (m.eG r o c) (S.ay j y) b=aj m S b:=by
 obtain rfl|rfl|rfl|rfl:=p
 all_goals
  intro b n q;simp at f g h l
  cases b<;>first|exact aX ii q|rfl|(simp[aj,Wd.ay,Mem.cU,Mem.ptr,Mem.eG,reduceCtorEq];done)|skip
  all_goals
   first
   |(simp[aj,Wd.ay,Mem.eG];done)
   |(rename_i k;simp[aj,Wd.ay,cX a];by_cases e:k=j
     .subst e;first|exact aX ii n|(simp[a,d,f,g,h,l,Mem.eG];done)
     .simp[e];done)
   |(rename_i k;simp[aj,Wd.ay,cX a];by_cases e:k=j
     .subst e;first|exact aX ii n|(simp[a,d];done)|(simp[a,d];try(apply iI;intros;simp[Cu,Mem.cU,Mem.eG]))
     .simp only[aE e]<;>(split<;>first|rfl|(apply iI;intros;simp[Cu,Mem.cU,Mem.eG])))
   |(rename_i k i;simp[aj,Wd.ay,cX a];by_cases e:k=j
     .subst e;simp[a,d]
     simp[aE e])
section
variable(A:At af F m0 w0 m w S){j:Nat}{x:bI}(hx:S.gs[j]?=x)
include A hx
theorem At.Ez:At af F m0 w0 (m.eG (.aH j) none 0) (w.setCell ⟨F.gs,j*25+20,none⟩ (.slice none 0 0)) (S.ay j {x with aH:=[]}):=by
 refine A.nil ii A.bj.aB.gs sX ?_ ?_ (iz (.inl rfl) hx none 0 rfl sX sX sX sX)
 .grind [aj,Wd.ay]
 exact cd9
theorem At.EA:At af F m0 w0 (m.eG (.aq j) none 0) (w.setCell ⟨F.gs,j*25+21,none⟩ (.slice none 0 0)) (S.ay j {x with aq:=[]}):=by
 refine A.nil ii A.bj.aB.gs sX ?_ ?_ (iz (.inr (.inl rfl)) hx none 0 rfl sX sX sX sX)
 .grind [aj,Wd.ay]
 exact cd6
theorem At.Hg:At af F m0 w0 (m.eG (.bA j) none 0) (w.setCell ⟨F.gs,j*25+22,none⟩ (.slice none 0 0)) (S.ay j {x with bA:=[]}):=by
 refine A.nil ii A.bj.aB.gs sX ?_ ?_ (iz (.inr (.inr (.inl rfl))) hx none 0 rfl sX sX sX sX)
 .grind [aj,Wd.ay]
 exact cd2
theorem At.Vp{g c:Nat}{l:ce}(d:w.grownBy w' (m.aV (.bA j)))(a:w'.ownsRow af 3 1 (.slice (some ⟨g,0,none⟩) l.length c) l.length (l.map I))(e:m.aV (.bA j)=g\/w.heap.size<=g):At af F m0 w0 (m.eG (.bA j) g c) (w'.setCell ⟨F.gs,j*25+22,none⟩ (.slice (some ⟨g,0,none⟩) l.length c)) (S.ay j {x with bA:=l}):=by
 refine A.row (p:=(3,1)) ii (by intro q b;simp[eI]at b<;>exact b.symm) A.bj.aB.gs sX d a e ?_ ?_ (iz (.inr (.inr (.inl rfl))) hx _ _ ii sX sX sX sX)
 .simp[aj,Wd.ay,cX hx]
 exact cd2
theorem At.EB:At af F m0 w0 (m.eG (.OK j) none 0) (w.setCell ⟨F.gs,j*25+23,none⟩ (.slice none 0 0)) (S.ay j {x with OK:=[]}):=by
 refine A.nil ii A.bj.aB.gs sX ?_ ?_ (iz (.inr (.inr (.inr rfl))) hx none 0 rfl sX sX sX sX)
 .grind [aj,Wd.ay]
 exact cd1
theorem At.EC{g c:Nat}{l:ce}(d:w.grownBy w' (m.aV (.OK j)))(a:w'.ownsRow af 3 1 (.slice (some ⟨g,0,none⟩) l.length c) l.length (l.map I))(e:m.aV (.OK j)=g\/w.heap.size<=g):At af F m0 w0 (m.eG (.OK j) g c) (w'.setCell ⟨F.gs,j*25+23,none⟩ (.slice (some ⟨g,0,none⟩) l.length c)) (S.ay j {x with OK:=l}):=by
 refine A.row (p:=(3,1)) ii (by intro q b;simp[eI]at b<;>exact b.symm) A.bj.aB.gs sX d a e ?_ ?_ (iz (.inr (.inr (.inr rfl))) hx _ _ ii sX sX sX sX)
 .simp[aj,Wd.ay,cX hx]
 exact cd1
theorem At.clear:∃L,At af F m0 w0 L (w.setCells F.gs (j*25) [m.cU (.ops j) x.ops.length,I x.at_,I x.ae,I x.bU,B x.token,I 0,B false,I (-1),I (-1),I (-1),I 0,I 0,I 0,I (-1),I (-1),I 0,I (-1),I 0,B false,I 0,.slice none 0 0,.slice none 0 0,.slice none 0 0,.slice none 0 0,I 0]) (S.ay j (bu x)):=by
 have y:=(A.g hx x (q:=0) (v:=m.cU (.ops j) x.ops.length)).g (az hx) x (q:=1) (v:=I x.at_);rw[aA]at y;have z:=y.g (az hx) x (q:=2) (v:=I x.ae);rw[aA]at z;have C:=z.g (az hx) x (q:=3) (v:=I x.bU);rw[aA]at C;have D:=C.g (az hx) x (q:=4) (v:=B x.token);rw[aA]at D;have E:=D.g (az hx) {x with call:=0} (q:=5) (v:=I 0);rw[aA]at E;have G:=E.g (az hx) {x with call:=0,aR:=false} (q:=6) (v:=B false);rw[aA]at G;have H:=G.g (az hx) {x with call:=0,aR:=false,aN:= -1} (q:=7) (v:=I (-1));rw[aA]at H;have J:=H.g (az hx) {x with call:=0,aR:=false,aN:= -1,bY:= -1} (q:=8) (v:=I (-1));rw[aA]at J;have K:=J.g (az hx) {x with call:=0,aR:=false,aN:= -1,bY:= -1,br:= -1} (q:=9) (v:=I (-1));rw[aA]at K;have a:=K.g (az hx) {x with call:=0,aR:=false,aN:= -1,bY:= -1,br:= -1,t:=0} (q:=10) (v:=I 0);rw[aA]at a;have b:=a.g (az hx) {x with call:=0,aR:=false,aN:= -1,bY:= -1,br:= -1,t:=0,bJ:=0} (q:=11) (v:=I 0);rw[aA]at b;have c:=b.g (az hx) {x with call:=0,aR:=false,aN:= -1,bY:= -1,br:= -1,t:=0,bJ:=0,lQ:=0} (q:=12) (v:=I 0);rw[aA]at c;have d:=c.g (az hx) {x with call:=0,aR:=false,aN:= -1,bY:= -1,br:= -1,t:=0,bJ:=0,lQ:=0,bF:= -1} (q:=13) (v:=I (-1));rw[aA]at d;have f:=d.g (az hx) {x with call:=0,aR:=false,aN:= -1,bY:= -1,br:= -1,t:=0,bJ:=0,lQ:=0,bF:= -1,fire:= -1} (q:=14) (v:=I (-1));rw[aA]at f;have h:=f.g (az hx) {x with call:=0,aR:=false,aN:= -1,bY:= -1,br:= -1,t:=0,bJ:=0,lQ:=0,bF:= -1,fire:= -1,res:={x.res with aJ:=0}} (q:=15) (v:=I 0);rw[aA]at h;have i:=h.g (az hx) {x with call:=0,aR:=false,aN:= -1,bY:= -1,br:= -1,t:=0,bJ:=0,lQ:=0,bF:= -1,fire:= -1,res:={x.res with aJ:=0,case:= -1}} (q:=16) (v:=I (-1));rw[aA]at i;have k:=i.g (az hx) {x with call:=0,aR:=false,aN:= -1,bY:= -1,br:= -1,t:=0,bJ:=0,lQ:=0,bF:= -1,fire:= -1,res:={x.res with aJ:=0,case:= -1,v:=0}} (q:=17) (v:=I 0);rw[aA]at k;have l:=k.g (az hx) {x with call:=0,aR:=false,aN:= -1,bY:= -1,br:= -1,t:=0,bJ:=0,lQ:=0,bF:= -1,fire:= -1,res:={x.res with aJ:=0,case:= -1,v:=0,ok:=false}} (q:=18) (v:=B false);rw[aA]at l;have n:=l.g (az hx) {x with call:=0,aR:=false,aN:= -1,bY:= -1,br:= -1,t:=0,bJ:=0,lQ:=0,bF:= -1,fire:= -1,res:={case:= -1}} (q:=19) (v:=I 0);rw[aA]at n;have o:=n.Ez (x:={x with call:=0,aR:=false,aN:= -1,bY:= -1,br:= -1,t:=0,bJ:=0,lQ:=0,bF:= -1,fire:= -1,res:={case:= -1}}) (az hx);rw[aA]at o;have p:=o.EA (x:={x with call:=0,aR:=false,aN:= -1,bY:= -1,br:= -1,t:=0,bJ:=0,lQ:=0,bF:= -1,fire:= -1,res:={case:= -1},aH:=[]}) (az hx);rw[aA]at p;have r:=p.Hg (x:={x with call:=0,aR:=false,aN:= -1,bY:= -1,br:= -1,t:=0,bJ:=0,lQ:=0,bF:= -1,fire:= -1,res:={case:= -1},aH:=[],aq:=[]}) (az hx);rw[aA]at r;have s:=r.EB (x:={x with call:=0,aR:=false,aN:= -1,bY:= -1,br:= -1,t:=0,bJ:=0,lQ:=0,bF:= -1,fire:= -1,res:={case:= -1},aH:=[],aq:=[],bA:=[]}) (az hx);rw[aA]at s;have u:=s.g (az hx) (bu x) (q:=24) (v:=I 0);rw[aA]at u;have e:w.setCells F.gs (j*25) [m.cU (.ops j) x.ops.length,I x.at_,I x.ae,I x.bU,B x.token,I 0,B false,I (-1),I (-1),I (-1),I 0,I 0,I 0,I (-1),I (-1),I 0,I (-1),I 0,B false,I 0,(),(),(),(),I 0]=(((((((((((((((((((((((((w.setCell (F.gs,j*25) (m.cU (.ops j) x.ops.length)).setCell (F.gs,j*25+1) (I x.at_)).setCell (F.gs,j*25+2) (I x.ae)).setCell (F.gs,j*25+3) (I x.bU)).setCell (F.gs,j*25+4) (B x.token)).setCell (F.gs,j*25+5) (I 0)).setCell (F.gs,j*25+6) (B false)).setCell (F.gs,j*25+7) (I (-1))).setCell (F.gs,j*25+8) (I (-1))).setCell (F.gs,j*25+9) (I (-1))).setCell (F.gs,j*25+10) (I 0)).setCell (F.gs,j*25+11) (I 0)).setCell (F.gs,j*25+12) (I 0)).setCell (F.gs,j*25+13) (I (-1))).setCell (F.gs,j*25+14) (I (-1))).setCell (F.gs,j*25+15) (I 0)).setCell (F.gs,j*25+16) (I (-1))).setCell (F.gs,j*25+17) (I 0)).setCell (F.gs,j*25+18) (B false)).setCell (F.gs,j*25+19) (I 0)).setCell (F.gs,j*25+20) ()).setCell (F.gs,j*25+21) ()).setCell (F.gs,j*25+22) ()).setCell (F.gs,j*25+23) ()).setCell (F.gs,j*25+24) (I 0)):=by simp only[World.setCells,aj2,Nat.reduceAdd]
 rw[e];exact⟨_,u⟩
end
end
open Go.Proofs.Tryz
variable{f w':World}{us c2:dl}{b z X cp:Nat}{G:Fx}{D:Mem}{E S':Wd}{Y:Int}{J:bi}
def Rd(k:IntKind)(w:World)(c:am)(a:ce):Prop:=
 a.length<=9223372036854775807/\(0<a.length->∃b off,c=some ⟨b,off,none⟩/\∀j,j<a.length->w.cell? ⟨b,off+j,none⟩=some (.int k (a.getD j 0)))
section
variable{k:IntKind}{ao:am}{zs:ce}(h:Rd k f ao zs)
include h
theorem Rd.at(i:Nat)(a:i<zs.length):∃b off,ao=some ⟨b,off,none⟩/\f.cell? ⟨b,off+i,none⟩=some (.int k (zs.getD i 0)):=by
 let⟨b,off,e,h⟩:=h.2 oX;exact⟨b,off,e,h i a⟩
theorem Rd.len:zs.length<=9223372036854775807:=h.1
end
theorem Rd.fU{k:IntKind}{c:am}{d:ce}(h:Rd k f c d)(g:∀a v,f.cell? a=some v->w'.cell? a=v):Rd k w' c d:=by
 refine⟨h.1,λi=>?_⟩;let⟨b,off,e,h⟩:=h.2 i;exact⟨b,off,e,λj l=>g _ _ (h j l)⟩
theorem Rd.drewN{k:IntKind}{w:World}{a:am}{b:ce}(h:Rd k w a b)(q:Nat):Rd k (w.drewN q) a b:=h
theorem Rd.below{k:IntKind}{w:World}{B:Nat}{b:am}{c:ce}(h:Rd k w b c)(hb:Below B w f)(d:w.heap.size<=B):Rd k f b c:=by
 exact ce1
theorem below_drewN{B:Nat}(h:Below B f w')(q:Nat):Below B f (w'.drewN q):=⟨h.os,h.tape,h.output,h.size,h.block⟩
theorem named(x:Int):∃y,Hid (y=x):=⟨x,ii⟩
def iO(l:ce)(i j:Nat):ce:=(l.set i (l.getD j 0)).set j (l.getD i 0)
theorem aX2(l:ce)(i j:Nat):(iO l i j).length=l.length:=by simp[iO]
theorem qy(l:ce)(i j x:Nat)(d:i<l.length)(f:j<l.length):(iO l i j).getD x 0=if x=j then l.getD i 0 else if x=i then l.getD j 0 else l.getD x 0:=by
 simp[iO,sW];by_cases a:x=j
 .subst a;simp[f]
 have c:¬j=x:=λe=>a e.symm
 by_cases b:x=i
 .subst b;simp[d,a,c]
 have g:¬i=x:=λe=>b e.symm
 simp[a,c,b,g]
theorem tF(l:ce)(i j:Nat)(a:i<l.length)(hj:j<l.length):(iO l i j).Perm l:=by
 rw[bI7];intro b;have d:l.getD i 0=l[i]:=by simp[List.getD,a]
 have e:l.getD j 0=l[j]:=by simp[List.getD,hj]
 unfold iO;rw[d,e];by_cases c:i=j
 .subst c;simp
 have f:j<(l.set i l[j]).length:=ct5
 rw[List.count_set f,List.count_set a];have g:(l.set i l[j])[j]=l[j]:=by simp[c]
 rw[g];have k:l[i]=b->1<=List.count b l:=λh=>List.count_pos_iff.2 (h▸at2 a)
 have key:∀(p q:Bool) (n:Nat),(p=true->1<=n)->(n-(if p=true then 1 else 0)+(if q=true then 1 else 0))-(if q=true then 1 else 0)+(if p=true then 1 else 0)=n:=by
  intro p q n h
  cases p<;>cases q<;>simp at h ⊢<;>omega
 exact key _ _ _ (λh=>k ck0)
def iP(l:ce)(m a:Nat):Prop:=∀c,c<m->1<=c->a<=(c-1) / 2->l.getD c 0<=l.getD ((c-1) / 2) 0
def vF(l:ce)(m a k:Nat):Prop:=
 (∀c,c<m->1<=c->a<=(c-1) / 2->(c-1) / 2≠k->l.getD c 0<=l.getD ((c-1) / 2) 0)/\
 (1<=k->a<=(k-1) / 2->∀c,c<m->1<=c->(c-1) / 2=k->l.getD c 0<=l.getD ((k-1) / 2) 0)
structure yt(m:Nat)(l l':ce):Prop where
 len:l'.length=l.length
 perm:l'.Perm l
 NI:∀x,m<=x->l'.getD x 0=l.getD x 0
 top:∀u,(∀x,x<m->l.getD x 0<=u)->∀x,x<m->l'.getD x 0<=u
theorem yt.refl(m:Nat)(l:ce):yt m l l:=⟨ii,.refl _,λ_ _=>rfl,λ_ h=>h⟩
theorem yt.trans{m:Nat}{a b c:ce}(h:yt m a b)(k:yt m b c):yt m a c:=
 ⟨k.len.trans h.len,k.perm.trans h.perm,λx d=>(k.NI x d).trans (h.NI x d),λu e=>k.top u (h.top u e)⟩
theorem yt.swap{l:ce}(d:z<b)(e:X<b)(f:b<=l.length):yt b l (iO l z X):=by
 refine⟨aX2 _ _ _,tF l z X oX oX,λx c=>?_,λu a x c=>?_⟩
 .rw[qy _ _ _ _ oX oX,aE oX,aE oX]
 rw[qy _ _ _ _ oX oX];split
 .exact a z d
 split
 .exact a X e
 exact a x c
section
variable{l:ce}
theorem Hh(h:iP l b (z+1)):vF l b z z:=
 ⟨λc d a e f=>h c d a oX,λa e=>oX⟩
theorem bo9(h:vF l b z X)(g:b<=2*X+1):iP l b z:=by
 intro c a d e;by_cases f:(c-1) / 2=X
 .omega
 exact h.1 c a d e f
theorem vG(h:vF l b z X)(d:l.getD (2*X+1) 0<=l.getD X 0)(e:2*X+2<b->l.getD (2*X+2) 0<=l.getD X 0):iP l b z:=by
 intro c f g i;by_cases a:(c-1) / 2=X
 .rw[a];by_cases j:c=2*X+1
  .rw[j];exact d
  have:c=2*X+2:=oX
  rw[this];exact e oX
 exact h.1 c f g i a
theorem bp0(h:vF l b z X)(o:b<=l.length)(p:cp=2*X+1\/cp=2*X+2)(g:cp<b)(q:z<=X)(m:l.getD X 0<=l.getD cp 0)(n:∀d,d<b->(d=2*X+1\/d=2*X+2)->l.getD d 0<=l.getD cp 0):vF (iO l X cp) b z cp:=by
 have c:=λx=>qy l X cp x oX oX
 constructor
 .intro d e f k i;rw[c d,c ((d-1) / 2)];by_cases j:(d-1) / 2=X
  .rw[aE (by omega:¬(d-1) / 2=cp),aF j];by_cases a:d=cp
   .rw[aF a];exact m
   rw[aE a,aE oX];exact n d e oX
  rw[aE i,aE j];by_cases a:d=X
  .rw[aE oX,aF a,a];subst a;exact h.2 f k cp g oX oX
  rw[aE oX,aE a];exact h.1 d e f k j
 intro _ _ d e f a;rw[c d,c ((cp-1) / 2),aE oX,aE oX,aE oX,aF oX];have:=h.1 d e f oX oX;rwa[a]at this
theorem bp1(h:iP l b 0):∀x,x<b->l.getD x 0<=l.getD 0 0:=by
 intro x;induction x using Nat.strongRecOn with
 |_ x ih=>
  intro a;by_cases c:x=0
  .rw[c];exact ae1 _
  exact Int.le_trans (h x a oX oX) (ih ((x-1) / 2) oX oX)
end
theorem La(l:ce)(n a:Nat)(h:n<=2*a+1):iP l n a:=by
 intro c b d e;omega
structure Phase(l:ce)(e:Nat):Prop where
 heap:iP l e 0
 tail:∀i j,e<=i->i<j->j<l.length->l.getD i 0<=l.getD j 0
 cut:∀i j,i<e->e<=j->j<l.length->l.getD i 0<=l.getD j 0
theorem ED{l:ce}(h:iP l l.length 0):Phase l l.length:=⟨h,λ_ _ _ _ _=>by omega,λ_ _ _ _ _=>by omega⟩
theorem yu{l:ce}(h:Phase l (b+1))(k:b<l.length)(p:0<b):iP (iO l 0 b) b 1/\(∀i j,b<=i->i<j->j<l.length->(iO l 0 b).getD i 0<=(iO l 0 b).getD j 0)/\(∀j,b<=j->j<l.length->∀i,i<b->(iO l 0 b).getD i 0<=(iO l 0 b).getD j 0):=by
 have a:=λx=>qy l 0 b x oX k
 have f:=bp1 h.heap;refine⟨λc q m r=>?_,λi j n o e=>?_,λj e g i n=>?_⟩
 .rw[a c,a ((c-1) / 2),aE oX,aE oX,aE oX,aE oX];exact h.heap c oX m oX
 .rw[a i,a j,aE (by omega:¬j=b),aE (by omega:¬j=0)];by_cases d:i=b
  .rw[aF d];exact h.cut 0 j oX oX e
  rw[aE d,aE oX];exact h.tail i j oX o e
 rw[a i,a j,aE (by omega:¬i=b)];by_cases d:j=b
 .split
  .exact f b oX
  exact f i oX
 rw[aE d,aE (by omega:¬j=0)];split
 .exact h.cut b j oX oX g
 exact h.cut i j oX oX g
theorem Hi{l c:ce}(h:Phase l (b+1))(f:b<l.length)(g:0<b)(a:yt b (iO l 0 b) c)(k:iP c b 0):Phase c b:=by
 let⟨_,m,n⟩:=yu h f g;have:c.length=l.length:=a.len.trans (aX2 _ _ _);refine⟨k,λi j d o e=>?_,λi j d e p=>?_⟩
 .rw[a.NI i d,a.NI j oX];exact m i j d o oX
 rw[a.NI j e];exact a.top _ (n j e oX) i d
theorem Cx{l:ce}(h:Phase l 1):l.Pairwise (· <=·):=by
 rw[ak7];intro i j b a c;have d:l.getD i 0=l[i]:=by simp[List.getD,b]
 have e:l.getD j 0=l[j]:=by simp[List.getD,a]
 rw[<-d,<-e];by_cases f:i<1
 .exact h.cut i j f oX a
 exact h.tail i j oX c a
theorem Cy{l:ce}(h:l.length<=1):l.Pairwise (· <=·):=by
 rw[ak7];omega
theorem Aw{a b:ce}(c:a.Pairwise (· <=·))(d:b.Pairwise (· <=·))(h:a.Perm b):a=b:=
 List.Perm.eq_of_pairwise (λ_ _ _ _ e f=>Int.le_antisymm e f) c d h
theorem lC:(prog.info? 3).map (λi=>(i.zero,i.size,i.bytes))=some (some (.int .i64 0),1,8):=kX
theorem Lb(d m:Int)(c:0<m):d % m=if d.tmod m<0 then d.tmod m+m else d.tmod m:=by
 have h:=Int.tmod_eq_emod (a:=d) (b:=m);have:=as1 d (by omega:m≠0);have:=aj7 d c;split at h<;>split<;>omega
theorem Hk(d i:Int)(w:World)(k:0<=i)(l:i<=1000):gt 215 #[.int .i64 d,.int .i64 i] w λe b=>e=.returned (.int .i64 (d % (i+1)))/\w=b:=by
 have h:=Lb d (i+1) oX;have c:=as1 d (by omega:i+1≠0);have f:=aj7 d (by omega:0<i+1);by_cases a:d.tmod (i+1)<0
 .rw[aF a]at h;have H:=ag h;have g:0<=d.tmod (i+1)+(i+1):=by omega
  have j:d.tmod (i+1)+(i+1)<=1000:=oX
  exact ch7
 rw[aE a]at h;have H:=ag h;have g:0<=d.tmod (i+1):=oX
 have j:d.tmod (i+1)<=1000:=oX
 clear h c f;exact ch7
def rz(a:ce):Nat->ce
 |0=>[]
 |k+1=>iO (rz a k++[(k:Int)]) k (a.getD k 0 % ((k:Int)+1)).toNat
theorem rK(a:ce)(k:Nat):(rz a k).length=k:=by
 induction k with
 |zero=>rfl
 |succ k ih=>simp[rz,aX2,ih]
def yv(B:Nat)(w:World)(v:Value)(a:ce):Prop:=w.ownsRow B 3 1 v a.length (a.map (Value.int .i64))
def vH(a:World)(c:ce)(e:Ending)(b:World):Prop:=
 ∃v,e=.returned v/\yv a.heap.size b v c/\Below a.heap.size a b
theorem yv.rd{B:Nat}{v:Value}{a:ce}(h:yv B f v a)(b:a.length<=9223372036854775807):∃c cap,v=.slice c a.length cap/\Rd .i64 f c a:=by
 obtain⟨rfl,d⟩|⟨g,cap,e,rfl,k,l,m,n,o,p⟩:=h.2
 .refine⟨none,0,by rw[d],b,λi=>oX⟩
 refine⟨some g,cap,ii,b,λi=>⟨g,0,ii,λj hj=>?_⟩⟩;have:=World.ownsRow.cellAt (g:=g) (cap:=cap) h j ct5;rw[wl,this];simp[hj]
theorem uJ{B cap:Nat}{a:ce}{i j:Nat}{y:Int}(h:f.ownsRow B 3 1 (.slice (some ⟨b,0,none⟩) z cap) z (a.map (Value.int .i64)))(c:Y=a.getD i 0)(d:y=a.getD j 0):((f.setCell ⟨b,i,none⟩ (.int .i64 y)).setCell ⟨b,j,none⟩ (.int .i64 Y)).ownsRow B 3 1 (.slice (some ⟨b,0,none⟩) z cap) z ((iO a i j).map (Value.int .i64)):=by
 have e:=(((h.stored i (.int .i64 y)).1).stored j (.int .i64 Y)).1;subst c d;simpa[iO,at9]using e
theorem tG{B:Nat}{x y:Value}(h:Below B f w')(a:B<=b):Below B f ((w'.setCell ⟨b,z,none⟩ y).setCell ⟨b,X,none⟩ x):=
 (h.setCell a _).setCell a _
theorem Lc(c:ce)(n:Nat)(z:n=c.length)(a:am)(J:Nat)(w:World)(h:Rd .i64 w a c)(S:n<=1000):gt 198 #[.slice a n J] w (vH w (rz c n)):=by
 let⟨A,B,K,C,gG⟩:=AC lC;have Hn:=ag z;clear z;go_enter func198,ntmps198;go_wp2_with (at_make;go_loud (refine wpList_make_own _ ii _ _ 28 rfl w 3 A (.int .i64 0) 1 underlying28 B K C _ _ _ n ii ii ii cl1 cj7 cG ?_);intro g b L);have m:Below w w g:=(fp).grown L cG cm0;go_loopw [3,4,5,11] (λv _ _ i wr=>∃k:Nat,k<=n/\i=.int .i64 k/\v=(w.heap.size,k,n)/\wr.ownsRow w 3 1 (w.heap.size,k,n) k ((rz c k).map (Value.int .i64))/\Below w w wr) (λ_ _ _ i _=>n-(intOf i).toNat)
 case atStart=>exact⟨0,wn _,ii,ii,b,m⟩
 obtain⟨k,hk,rfl,rfl,b,m⟩:=hrel;by_cases dD:k<n
 .have f:=ag (rK c k);go_wp2_with (at_builtin;refine wpList_append_fits _ ii (.tmp 14) (.tmp 16) 28 rfl w 3 A 1 underlying28 B C w k n _ ii (b.alloc _) ⟨wr.heap.size,0,none⟩ 1 1 [.int .i64 k] ii ii (cell_one_new _ _ _) cq2 oX ?_);intro g l D;have p:=m.size;have r:Below w w g:=(m.alloc p _).grown D ci8 (by intro q M;simp at M;omega);obtain⟨T,U,rfl,c1⟩:=((ag h).out.below r cG).at k cn8;let⟨d,E⟩:=named (c.getD k 0);rw[<-E.out]at c1;have F:=as1 d (by omega:(k:Int)+1≠0);have N:=aj7 d (by omega:0<(k:Int)+1);let⟨j,s⟩:∃j:Nat,(j:Int)=d % ((k:Int)+1):=⟨_,Int.toNat_of_nonneg F⟩;have X:j<=k:=by omega
  have t:=λW=>Hk d k W oX oX
  rw[<-s]at t;have O:=ag t;have Q:=ag s;clear t F N s b D;have Y:g.cell? (w.heap.size,k)=some (.int .i64 k):=by rw[l.cellAt k oX];simp[f.out]
  let⟨y,o⟩:=named ((rz c k++[(k:Int)]).getD j 0)
  have Z:g.cell? (w.heap.size,j)=some (.int .i64 y):=by
   rw[l.cellAt j oX,o.out];have:(rz c k).map (Value.int .i64)++[Value.int .i64 k]=(rz c k++[(k:Int)]).map (Value.int .i64):=sX
   rw[this,na,c9X,fv (by simp[f.out];omega)];rfl
  have fk:=l.frozenAt k;have fj:=l.frozenAt j;go_wp2_with (go_at_call 215;refine(O.out _).mono ?_;rintro e w' ⟨rfl,rfl⟩);have G:g.ownsRow w 3 1 (w.heap.size,k+1,n) (k+1) ((rz c k++[(k:Int)]).map (Value.int .i64)):=by simpa using l
  have hx:(k:Int)=(rz c k++[(k:Int)]).getD k 0:=by simp[f.out]
  have R:=bL7;have H:rz c (k+1)=iO (rz c k++[(k:Int)]) k j:=by show iO _ _ (c.getD k 0 % ((k:Int)+1)).toNat=_;rw[<-E.out,<-Q.out];rfl
  have I:=ag H;clear hx H l;by_cases x:j=k
  .subst x;go_region;go_wp2;go_roundw
   case rel=>exact⟨j+1,oX,cj8,ii,by rw[I.out];exact uJ G o.out o.out,(tG r cG).drew⟩
   simp[intOf];omega
  go_region;go_wp2;go_roundw
  case rel=>exact⟨k+1,oX,cj8,ii,by rw[I.out];exact uJ G R.out o.out,(tG r cG).drew⟩
  simp[intOf];omega
 obtain rfl:k=n:=oX
 go_wp2;go_ret;exact⟨_,ii,by unfold yv;rw[rK];exact b,m⟩
theorem sZ{P:Program}{w:World}{g:Array Oper}{rest:List Oper}{o:Oper}{a:Act}{Q:Exit->Act->World->Prop}(C:o.guard=none)(s x:Operand)(t:TypeId)(D:o.op=.call {callee:=.builtin .append,args:=#[s,x],argTypes:=#[t,t]})(e:TypeId)(i:TypeInfo)(z:Value)(bytes:Nat)(ht:P.underlying t=some (.slice e))(hi:P.info? e=i)(hz:i.zero=z)(hsize:i.size=1)(E:i.bytes=bytes)(q:z.cells.size=1)(M:bytes<=1000)(l:am)(F:a.eval s=.slice l 0 0)(ad:Addr)(c:Nat)(u:Value)(G:a.eval x=.slice ad 1 c)(y:w.cell? ad=u)(A:u.oneCell')(h:∀cap d,d.ownsRow w.heap.size e 1 (.slice (some ⟨w.heap.size,0,none⟩) 1 cap) 1 [u]->w.grownBy d none->wpList P g Q rest (a.put o.dst (.slice (some ⟨w.heap.size,0,none⟩) 1 cap)) d):wpList P g Q (o::rest) a w:=by
 refine ae2 C λK H=>?_
 have Bw:∀j v,[u][j]?=some v->w.cell? (ad.add j)=some v:=by
  intro j v f;match j,f with
  |0,f=>
   simp at f;subst f;let⟨b,off,m⟩:=ad;have n:m=none:=(by simpa using bH6 y);exact y
 have B:=grownCap_ge w 1 0 e;have m:grownCap w 1 0 e<=maxLen:=grownCap_le_maxLen w 1 0 e cj7
 have n:∀cap,1<=cap->cap<=maxLen->(w.drew.alloc (.cells (#[u]++Builtin.zeroCells z.cells (cap-1)) e)).ownsRow w e 1 (.slice w 1 cap) 1 [u]/\
   w.grownBy (w.drew.alloc (.cells (#[u]++Builtin.zeroCells z.cells (cap-1)) e)) none:=by
  refine λcap A r=>⟨⟨ii,.inr ⟨w.heap.size,_,_,ii,rx _,ag7 w.drew _,A,r,?_,?_⟩⟩,⟨ii,ii,ii,sX,λk I _=>gf w.drew _ k I⟩⟩
  .simp[size_zeroCells,q];omega
  simp
 have J:∃cap d,(Builtin.append_ #[t,t] o.type #[(l,0,0),(some ad,1,c)]).run P w=.ok (.slice w 1 cap) d/\d.ownsRow w e 1 (.slice w 1 cap) 1 [u]/\w.grownBy d none:=by
  cases l with
  |none=>
   have p:=bL8;exact⟨_,_,p,by simpa using n _ B m⟩
  |some l=>
   have p:=run_append_grow (P:=P) w t o.type e i z ht hi hz l 0 0 [] sX (by intro j v f;simp at f) ad 1 c [u] (by simp[hsize]) Bw oX oX (growslice_fits oX oX);exact⟨_,_,p,by simpa using n _ B m⟩
 let⟨cap,d,p,r,L⟩:=J;unfold Oper.wp execOp;simp[D,resolve,invoke,builtin,ak2,aw7,ae8,at5,F,G,p];exact H _ _ (h cap d r L)
theorem T4{t:TypeId}(a:w'.heap=(f.alloc (.cells us t)).heap):∀j v,us.toList[j]?=some v->w'.cell? ((⟨f.heap.size,0,none⟩:Addr).add j)=some v:=World.news_of_block (by rw[a];exact ag7 f _)
section
variable{P:Program}
theorem JT{o:Oper}{a:Act}{K:Act->World->Prop}{Q:Exit->Act->World->Prop}(s x:Operand)(t:TypeId)(ho:o.op=.call {callee:=.builtin .append,args:=#[s,x],argTypes:=#[t,t]}){af:Nat}{e:TypeId}{i:TypeInfo}{z:Value}{size bytes:Nat}(ht:P.underlying t=some (.slice e))(hi:P.info? e=i)(hz:i.zero=z)(hsize:i.size=size)(hby:i.bytes=bytes)(hzs:z.cells.size=size)(hsz:0<size)(hbb:bytes<=200){w2 W3:World}(hW:W3.heap=(w2.alloc (.cells us e)).heap)(hus:us.size=size)(h1:∀u∈us.toList,u.oneCell')(v:Value)(n:Nat)(xs:bi)(hs:a.eval s=v)(hown:w2.ownsRow af e size v n xs)(hx:a.eval x=.slice (some ⟨w2.heap.size,0,none⟩) 1 1)(c:n<1000001)(b:af<=w2.heap.size)(h:∀(g:Nat) cap w',w'.ownsRow af e size (.slice (some ⟨g,0,none⟩) (n+1) cap) (n+1) (xs++us.toList)->W3.grownBy w' v.ownBlock->(v.ownBlock=g\/W3.heap.size<=g)->K (a.put o.dst (.slice (some ⟨g,0,none⟩) (n+1) cap)) w'):o.wp P a W3 K Q:=by
 exact ca4
theorem jN{ops:Array Oper}{o:Oper}{a:Act}{K:Act->World->Prop}{Q:Exit->Act->World->Prop}{E:Prop}(nX:o.guard=none)(s x:Operand)(t:TypeId)(d:o.op=.call {callee:=.builtin .append,args:=#[s,x],argTypes:=#[t,t]}){e:TypeId}{i:TypeInfo}{z:Value}{size bytes:Nat}(ht:P.underlying t=some (.slice e))(hi:P.info? e=i)(hz:i.zero=z)(hsize:i.size=size)(hby:i.bytes=bytes)(hzs:z.cells.size=size)(hsz:0<size)(hbb:bytes<=200){w2 W3:World}(f:W3.heap=(w2.alloc (.cells us e)).heap)(hus:us.size=size)(h1:∀u∈us.toList,u.oneCell')(v:Value)(n:Nat)(xs:bi)(j:a.eval s=v)(hown:w2.ownsRow b e size v n xs)(k:a.eval x=.slice (some ⟨w2.heap.size,0,none⟩) 1 1)(hn:n<1000001)(hbase:b<=w2.heap.size)(h:∀(g:Nat) cap c,c.ownsRow b e size (.slice (some ⟨g,0,none⟩) (n+1) cap) (n+1) (xs++us.toList)->W3.grownBy c v.ownBlock->(v.ownBlock=g\/W3.heap.size<=g)->K (a.put o.dst (.slice (some ⟨g,0,none⟩) (n+1) cap)) c):if Region.wanted o (yielded ops a.tmps)=true then Oper.wp P o a W3 K Q else E:=by
 rw[aF cn1];exact JT s x t d ht hi hz hsize hby hzs hsz hbb f hus h1 v n xs j hown k hn hbase h
theorem jw{j:Array Oper}{rest:List Oper}{o:Oper}{a:Act}{Q:Exit->Act->World->Prop}(A:o.guard=none)(s x:Operand)(t:TypeId)(B:o.op=.call {callee:=.builtin .append,args:=#[s,x],argTypes:=#[t,t]}){e:TypeId}{i:TypeInfo}{z:Value}{size bytes:Nat}(C:P.underlying t=some (.slice e))(D:P.info? e=i)(E:i.zero=z)(c:i.size=size)(m:i.bytes=bytes)(p:z.cells.size=size)(q:0<size)(r:bytes<=200){w2:World}(F:f.heap=(w2.alloc (.cells us e)).heap)(w:us.size=size)(G:∀u∈us.toList,u.oneCell')(v:Value)(n:Nat)(y:bi)(H:a.eval s=v)(k:w2.ownsRow b e size v n y)(I:a.eval x=.slice (some ⟨w2.heap.size,0,none⟩) 1 1)(J:n<1000001)(d:b<=w2.heap.size)(h:∀(g:Nat) cap l,l.ownsRow b e size (.slice (some ⟨g,0,none⟩) (n+1) cap) (n+1) (y++us.toList)->f.grownBy l v.ownBlock->(v.ownBlock=g\/f.heap.size<=g)->wpList P j Q rest (a.put o.dst (.slice (some ⟨g,0,none⟩) (n+1) cap)) l):wpList P j Q (o::rest) a f:=
 ae2 A λ_ K=>JT s x t B C D E c m p q r F w G v n y H k I J d λg cap l L M N=>K _ _ (h g cap l L M N)
theorem aX3{w:World}{p:Array Oper}{rest:List Oper}{o:Oper}{a:Act}{Q:Exit->Act->World->Prop}(N:o.guard=none)(s x:Operand)(t:TypeId)(O:o.op=.call {callee:=.builtin .append,args:=#[s,x],argTypes:=#[t,t]})(r:Nat)(e:TypeId)(i:TypeInfo)(z:Value)(bytes:Nat)(ht:P.underlying t=some (.slice e))(hi:P.info? e=i)(hz:i.zero=z)(hsize:i.size=1)(E:i.bytes=bytes)(F:z.cells.size=1){v:Value}(n:Nat)(d:bi)(R:a.eval s=v)(f:w.ownsRow r e 1 v n d)(ad:Addr)(c:Nat)(u:Value)(S:a.eval x=.slice ad 1 c)(T:w.cell? ad=u)(G:u.oneCell')(y:n+1<=maxLen)(U:(n+1)*bytes<=140737488355328)(m:r<=w.heap.size)(h:∀(g:Nat) cap l,l.ownsRow r e 1 (.slice (some ⟨g,0,none⟩) (n+1) cap) (n+1) (d++[u])->w.grownBy l g->(v=.slice (some ⟨g,0,none⟩) n cap\/g=w.heap.size)->wpList P p Q rest (a.put o.dst (.slice (some ⟨g,0,none⟩) (n+1) cap)) l):wpList P p Q (o::rest) a w:=by
 refine ae2 N λK W=>?_
 have Bw:∀j v,[u][j]?=some v->w.cell? (ad.add j)=some v:=by
  intro j v D;match j,D with
  |0,D=>
   simp at D;subst D;let⟨b,off,A⟩:=ad;have B:A=none:=(by simpa using bH6 T);grind [Addr.add_lit]
 have zU:n+1<=9223372036854775807:=by simp[maxLen]at y;omega
 have A:d.length=n:=by have:=f.1;omega
 have YA:∀old,n+1<=grownCap w (n+1) old e:=λold=>grownCap_ge w (n+1) old e
 have X:∀old,grownCap w (n+1) old e<=maxLen:=λold=>grownCap_le_maxLen w (n+1) old e y
 have Y:∀cap,n+1<=cap->cap<=maxLen->(w.drew.alloc (.cells (d.toArray++#[u]++Builtin.zeroCells z.cells (cap-(n+1))) e)).ownsRow r e 1 (.slice w (n+1) cap) (n+1) (d++[u])/\
   w.grownBy (w.drew.alloc (.cells (d.toArray++#[u]++Builtin.zeroCells z.cells (cap-(n+1))) e)) w.heap.size:=by
  refine λcap G H=>⟨⟨by simp[A],.inr ⟨w.heap.size,_,_,ii,m,ag7 w.drew _,G,H,?_,?_⟩⟩,⟨ii,ii,ii,sX,λk I _=>gf w.drew _ k I⟩⟩
  .simp[size_zeroCells,F,A];omega
  have:(d.toArray++#[u]++Builtin.zeroCells z.cells (cap-(n+1))).toList=(d++[u])++(Builtin.zeroCells z.cells (cap-(n+1))).toList:=sX
  rw[this];exact List.take_left' (by simp[A])
 have Z:∃g cap l,(Builtin.append_ #[t,t] o.type #[v,(some ad,1,c)]).run P w=.ok (.slice (some ⟨g,0,none⟩) (n+1) cap) l/\l.ownsRow r e 1 (.slice (some ⟨g,0,none⟩) (n+1) cap) (n+1) (d++[u])/\w.grownBy l (some g)/\(v=.slice (some ⟨g,0,none⟩) n cap\/g=w.heap.size):=by
  obtain⟨rfl,rfl⟩|⟨g,cap,B,rfl,Ro,J,JU,mP,fa,Uw⟩:=f.2
  .have L:d=[]:=xn A;subst L;have C:=bL8;grind
  by_cases L:n+1<=cap
  .have C:=run_append_room (P:=P) w t o.type e i ht hi g n cap B J ad 1 c [u] (by simp[hsize]) Bw (by intro q M;simp at M;subst M;exact G) L (by rw[hsize,fa];simp;omega);refine⟨g,cap,_,C,⟨by simp[A],.inr ⟨g,cap,_,ii,Ro,setRow_heap w g B _ e _ J,L,mP,?_,?_⟩⟩,⟨ii,ii,ii,sX,λk _ I=>setRow_other w g k _ (λe=>I cx5)⟩,.inl rfl⟩;all_goals grind
  have C:=run_append_grow (P:=P) w t o.type e i z ht hi hz ⟨g,0,none⟩ n cap d (by rw[hsize];omega) (f.cells (g:=g) ii) ad 1 c [u] (by simp[hsize]) Bw oX oX (growslice_fits oX (by rw[E];exact U));grind
 let⟨g,cap,l,C,H,M,h4⟩:=Z;unfold Oper.wp execOp;simp[O,resolve,invoke,builtin,ak2,aw7,ae8,at5,R,S,C];exact W _ _ (h g cap l H M h4)
end
theorem aI8(z:Int):∀u∈(#[I z]:dl).toList,u.oneCell':=cj0
theorem vJ:(8:Nat)<=200:=dX
def Row(a:TypeId)(n:Nat):Prop:=(∃d,prog.underlying a=some d/\(match d with| .struct _| .array _ _=>true|_=>false)=true)/\(prog.info? a).map (·.size)=n
theorem be6{a:TypeId}(h:(match prog.underlying a with|some d=>(match d with| .struct _| .array _ _=>true|_=>false)|none=>false)=true:=by kernel_rfl)(c:(prog.info? a).map (·.size)=b:=by kernel_rfl):Row a b:=by
 refine⟨?_,c⟩;grind
theorem nQ:Row 41 12:=be6
theorem bu0:Row 44 5:=be6
theorem bu5:Row 46 13:=be6
theorem bx9:Row 49 6:=be6
theorem bA2:Row 52 3:=be6
theorem aa9:Row 59 6:=be6
theorem cQ:Row 100 25:=be6
theorem aR1:Row 129 2:=be6
theorem bb4{a:TypeId}{t2:TypeId}{e:Nat×Nat}(c:Row a us.size)(g:f.heap[b]?=some (.cells us t2 e)):(loadVar a ⟨b,0,none⟩).run prog f=.ok (.agg us) f:=by
 let⟨⟨d,c,h⟩,i⟩:=c;grind [run_loadVar_row]
section
variable{fn:Func}{p p2 t u:Tmp}{ty ty2 t2 t3:TypeId}{cs:dl}{fr Au:Nat×Nat}{Q:Ending->World->Prop}
theorem bj2(h:fn.results=#[.cell p ty])(a:us.getD p undef=.pointer (some ⟨b,0,none⟩))(c:f.heap[b]?=some (.cells cs t2 fr))(d:Row ty cs.size)(e:Q (.returned (.agg cs)) f):bodyPost prog fn Q .ret ⟨us,[]⟩ f:=⟨ii,_,by simp[results,h,by simpa using a,asAddr,bb4 d c],e⟩
theorem aV4(h:fn.results=#[.cell p ty,.tmp t])(a:us.getD p undef=.pointer (some ⟨b,0,none⟩))(c:f.heap[b]?=some (.cells cs t2 fr))(d:Row ty cs.size)(e:Q (.returned (.tuple #[.agg cs,us.getD t undef])) f):bodyPost prog fn Q .ret ⟨us,[]⟩ f:=⟨ii,_,by simp[results,h,by simpa using a,asAddr,bb4 d c],e⟩
theorem aZ7(h:fn.results=#[.cell p ty,.tmp t,.tmp u])(a:us.getD p undef=.pointer (some ⟨b,0,none⟩))(c:f.heap[b]?=some (.cells cs t2 fr))(d:Row ty cs.size)(e:Q (.returned (.tuple #[.agg cs,us.getD t undef,us.getD u undef])) f):bodyPost prog fn Q .ret ⟨us,[]⟩ f:=⟨ii,_,by simp[results,h,by simpa using a,asAddr,bb4 d c],e⟩
end
section
variable{w:World}
theorem nk(R:bz z G w D E)(k:Int):gt 149 #[.pointer (some ⟨G.ef,0,none⟩),I k] w (eL (.tuple #[I (E.ef.first k).1,.bool (E.ef.first k).2]) λd=>w=d):=by
 have:=R.yq;unfold er.first;by_cases a:0<=k/\k<E.ef.bM.length
 .obtain⟨j,rfl⟩:∃j:Nat,k=j:=⟨k.toNat,oX⟩;have hj:j<E.ef.bM.length:=by omega
  let⟨l,b⟩:∃x,E.ef.bM[j]?=some x:=⟨_,fv hj⟩;let⟨i,o,e⟩:=R.line b;have f:decide ((j:Int)<(E.ef.bM.length:Int))=true:=ct5
  rw[eR,b];let⟨n,c⟩:=dC (l.count);rw[<-c]at e;simp only;rw[<-c];by_cases h0:n=0
  .rw[aF h0];have g:(n==0)=true:=by simpa using h0
   exact cd0
  rw[aE h0];have g:(n==0)=false:=cq3
  exact cd0
 rw[iN a];have h1:k<0\/(0<=k/\(E.ef.bM.length:Int)<=k):=oX
 obtain h1|⟨h0,h1⟩:=h1
 .exact cd0
 have f:decide (k<(E.ef.bM.length:Int))=false:=cm9
 exact cd0
theorem By(R:bz z G w D E)(k:Int):gt 205 #[.pointer (some ⟨G.ef,0,none⟩),I k] w (eL (I (E.ef.len k)) λc=>w=c):=by
 have:=R.yq;unfold er.len;by_cases a:0<=k/\k<E.ef.bM.length
 .obtain⟨j,rfl⟩:∃j:Nat,k=j:=⟨k.toNat,oX⟩;have hj:j<E.ef.bM.length:=by omega
  let⟨l,b⟩:∃x,E.ef.bM[j]?=some x:=⟨_,fv hj⟩;let⟨e,f,g⟩:=R.line b;have d:decide ((j:Int)<(E.ef.bM.length:Int))=true:=ct5
  rw[eR,b];go_enter func205,ntmps205;go_wp2;go_ret;exact⟨ii,ii⟩
 rw[iN a];have h1:k<0\/(0<=k/\(E.ef.bM.length:Int)<=k):=oX
 obtain h1|⟨b,h1⟩:=h1
 .go_enter func205,ntmps205;exact bZ9
 have d:decide (k<(E.ef.bM.length:Int))=false:=cm9
 go_enter func205,ntmps205;exact bZ9
def Sa(q:er)(x:Int):Int×Bool:=match idx q.aS x with|some t=>if t.pX= -1 then(0,false)else(t.pX,true)|none=>(0,false)
theorem NN(R:bz z G w D E)(x:Int):gt 206 #[.pointer (some ⟨G.ef,0,none⟩),I x] w (eL (.tuple #[I (Sa E.ef x).1,.bool (Sa E.ef x).2]) λd=>w=d):=by
 have:=R.xN;unfold Sa;by_cases a:0<=x/\x<E.ef.aS.length
 .obtain⟨j,rfl⟩:∃j:Nat,x=j:=⟨x.toNat,oX⟩;have e:j<E.ef.aS.length:=by omega
  let⟨l,b⟩:∃x,E.ef.aS[j]?=some x:=⟨_,fv e⟩;let⟨f,g,i⟩:=R.thing b;rw[eR,b];let⟨n,c⟩:=dC (l.pX);rw[<-c]at f;simp only;rw[<-c];clear R a b c;by_cases h0:n= -1
  .subst h0;rw[aF rfl];go_enter func206,ntmps206;go_wp2;go_ret2;exact⟨ii,ii⟩
  rw[aE h0];have:(n== -1)=false:=cq3
  go_enter func206,ntmps206;go_wp2;go_ret2;exact⟨ii,ii⟩
 rw[iN a];have b:x<0\/(0<=x/\(E.ef.aS.length:Int)<=x):=oX
 go_enter func206,ntmps206;obtain b|⟨h0,b⟩:=b
 all_goals
  go_wp2;go_ret2;exact⟨ii,ii⟩
theorem rL{q:er}{x y:nf}(h:q.aS[X]?=x)(a:b≠X):(q.fJ b y).aS[X]?=x:=by
 simp[er.fJ,a,h]
theorem du(h:nat? Y=b):Y=b:=by
 unfold nat? at h;split at h
 .cases h;omega
 cases h
theorem EE{q:er}{x y:nf}(h:q.aS[b]?=x):(q.fJ b y).aS[b]?=y:=getElem?_set_self' h
theorem lE{q:er}{x y:Ct}(h:q.bM[b]?=x):(q.fe b y).bM[b]?=y:=getElem?_set_self' h
theorem At.vK{a:Mem}(A:At z G a f D w E){j:Nat}{x:nf}(h:E.ef.aS[j]?=x)(y:nf):At z G a f D (((w.setCell ⟨G.aS,j*3,none⟩ (I y.pX)).setCell ⟨G.aS,j*3+1,none⟩ (I y.behind)).setCell ⟨G.aS,j*3+2,none⟩ (I y.ahead)) {E with ef:=E.ef.fJ j y}:=by
 have b:(E.ef.fJ j {x with pX:=y.pX}).aS[j]?=some {x with pX:=y.pX}:=EE h;simpa[er.fJ,my]using (((A.thing (q:=0) h {x with pX:=y.pX} oX (v:=I y.pX) ii).thing (q:=1) b {x with pX:=y.pX,behind:=y.behind} oX (v:=I y.behind) ii).thing (q:=2) (EE b) y oX (v:=I y.ahead) ii)
end
def pW(z:Int):Prop:= -9223372036854775808<=z/\z<=9223372036854775807
def gW(w:World)(d:am)(a:List Case):Prop:=
 a.length<=9223372036854775807/\∀(k:Nat) c,a[k]?=some c->∃b off:Nat,d=some ⟨b,off,none⟩/\
  w.cell? ⟨b,off+k*3,none⟩=B c.cF/\w.cell? ⟨b,off+k*3+1,none⟩=I c.ch/\w.cell? ⟨b,off+k*3+2,none⟩=I c.v/\pW c.ch/\pW c.v
def kC(w:World)(c:am)(a:go):Prop:=
 a.length<=9223372036854775807/\∀(j:Nat) o,a[j]?=some o->∃b off x d,c=some ⟨b,off,none⟩/\
  w.cell? ⟨b,off+j*6,none⟩=I o.ai/\w.cell? ⟨b,off+j*6+1,none⟩=I o.ch/\w.cell? ⟨b,off+j*6+2,none⟩=I o.n/\w.cell? ⟨b,off+j*6+3,none⟩=I o.v/\
  w.cell? ⟨b,off+j*6+4,none⟩=some (.slice x o.cases.length d)/\w.cell? ⟨b,off+j*6+5,none⟩=B o.dG/\gW w x o.cases/\pW o.ai/\pW o.ch/\pW o.n/\pW o.v
def aH1(w:World)(d:am)(p:be):Prop:=
 p.length<=9223372036854775807/\∀(i:Nat) a,p[i]?=some a->∃b off r c,d=some ⟨b,off,none⟩/\w.cell? ⟨b,off+i,none⟩=some (.slice r a.length c)/\kC w r a
theorem gW.fU{g:am}{i:List Case}(h:gW f g i)(d:∀a v,f.cell? a=some v->w'.cell? a=v):gW w' g i:=
 ⟨h.1,λk c j=>by let⟨b,off,e,l,m,n,o⟩:=h.2 k c j;exact⟨b,off,e,d _ _ l,d _ _ m,d _ _ n,o⟩⟩
theorem kC.fU{w d:World}{f:am}{g:go}(h:kC w f g)(c:∀a v,w.cell? a=some v->d.cell? a=v):kC d f g:=
 ⟨h.1,λj o i=>by let⟨b,off,x,k,e,l,m,n,p,q,r,s,t⟩:=h.2 j o i;exact⟨b,off,x,k,e,c _ _ l,c _ _ m,c _ _ n,c _ _ p,c _ _ q,c _ _ r,s.fU c,t⟩⟩
theorem aH1.fU{w d:World}{f:am}{p:be}(h:aH1 w f p)(g:∀a v,w.cell? a=some v->d.cell? a=v):aH1 d f p:=
 ⟨h.1,λi j k=>by let⟨b,off,r,c,e,l,m⟩:=h.2 i j k;exact⟨b,off,r,c,e,g _ _ l,m.fU g⟩⟩
theorem cw{B:Nat}(c:Below B f w')(d:f.heap.size<=B)(a:Addr)(v:Value)(b:f.cell? a=v):w'.cell? a=v:=by
 rw[c.cell (by have:=ba0 f a b;omega)];exact b
section
variable{B:Nat}{ao:am}
theorem gW.below{a:List Case}(h:gW f ao a)(b:Below B f w')(c:f.heap.size<=B):gW w' ao a:=h.fU (cw b c)
theorem kC.below{a:go}(h:kC f ao a)(b:Below B f w')(c:f.heap.size<=B):kC w' ao a:=h.fU (cw b c)
theorem aH1.below{p:be}(h:aH1 f ao p)(a:Below B f w')(b:f.heap.size<=B):aH1 w' ao p:=h.fU (cw a b)
end
def il(k:Int):Bool:=decide (2<=k)&&decide (k<=8)
def kD(k:Int):Bool:=decide (k=2)||decide (k=4)
def qg(c:Case):Bool:=decide (0<=c.ch)&&decide (c.ch<=8)&&decide (0<=c.v)&&decide (c.v<=255)&&(c.cF||decide (c.v=0))
def yF(o:cu):Bool:=
 decide (1<=o.ai)&&decide (o.ai<=9)&&decide (0<=o.ch)&&decide (o.ch<=8)&&decide (0<=o.n)&&decide (o.n<=4)&&decide (0<=o.v)&&decide (o.v<=255)&&decide (o.cases.length<=6) &&
 (il o.ai||decide (o.ch=0))&&(kD o.ai||decide (o.v=0))&&(decide (o.ai=1)||decide (o.n=0))&&(decide (o.ai=9)||(!o.dG&&decide (o.cases.length=0)))&&o.cases.all qg
def im(p:be):Bool:=p.all (λl=>l.all yF&&decide (l.length<=16))&&decide (1<=p.length)&&decide (p.length<=8)
section
variable{af:Nat}{F:Fx}{w w0:World}{m:Mem}{S:Wd}
section
variable(R:bz af F w m S)
include R
theorem bz.YB:w.cell? ⟨F.Eg,0,none⟩=I S.Eg.size:=R.cell R.aB.Eg (j:=0) ii
theorem bz.NO:w.cell? ⟨F.Eg,1,none⟩=I S.Eg.most:=R.cell R.aB.Eg (j:=1) ii
theorem bz.pf:w.cell? ⟨F.Eg,2,none⟩=some (.slice (some ⟨F.aC,0,none⟩) S.Eg.aC.length (m.cap .aC)):=by
 rw[<-Mem.de R.aB.aC];exact R.cell R.aB.Eg (j:=2) ii
theorem bz.uK:w.cell? ⟨F.Eg,3,none⟩=m.cU .aK S.Eg.aK.length:=R.cell R.aB.Eg (j:=3) ii
theorem bz.Ho:w.cell? ⟨F.Eg,4,none⟩=I S.Eg.cO:=R.cell R.aB.Eg (j:=4) ii
theorem bz.Bz:w.cell? ⟨F.Eg,5,none⟩=some (.slice (some ⟨F.bV,0,none⟩) S.Eg.bV.length (m.cap .bV)):=by
 rw[<-Mem.de R.aB.bV];exact R.cell R.aB.Eg (j:=5) ii
end
theorem bz.bV(R:bz af F w m S){j:Nat}{b:Bool}(h:S.Eg.bV[j]?=b):w.cell? ⟨F.bV,j,none⟩=B b:=R.cell R.aB.bV cr0
section
variable(R:bz af F w m S)
include R
theorem bz.tH{c:ce}(h:S.Eg.aC[b]?=c):w.cell? ⟨F.aC,b,none⟩=m.cU (.cache b) c.length:=by
 have a:=fq (f:=je m) (k:=1) (λ_ _=>rfl) S.Eg.aC 0 b 0 c h oX;rw[at8,bH0,wl]at a;exact R.cell R.aB.aC a
theorem uL:∃a c,m.cU .aK S.Eg.aK.length=.slice a S.Eg.aK.length c:=R.shape cs9
theorem wT{l:ce}(h:S.Eg.aC[b]?=l):∃a c,m.cU (.cache b) l.length=.slice a l.length c:=R.shape cr0
theorem BA(x:Int)(g:S.Eg.cO<=S.Eg.bV.length):gt 207 #[.pointer (some ⟨F.Eg,0,none⟩),I x] w (eL (.bool (S.Eg.cK x)) λw'=>w=w'):=by
 have c4:=R.Ho;have:=R.Bz;unfold fS.cK;by_cases a:0<=x/\x<S.Eg.cO
 .obtain⟨j,rfl⟩:∃j:Nat,x=j:=⟨x.toNat,oX⟩;let⟨b,c⟩:∃b,S.Eg.bV[j]?=some b:=⟨_,fv oX⟩;have:=R.bV c;have d:decide ((j:Int)<S.Eg.cO)=true:=by simpa using a.2
  rw[eR,c,d];have:=a.2;go_enter func207,ntmps207;go_wp2;go_ret;exact⟨sX,ii⟩
 have h1:x<0\/(0<=x/\S.Eg.cO<=x):=oX
 let⟨f,c⟩:=dC (S.Eg.cO);rw[<-c]at c4 h1 ⊢;clear R g a c;obtain h1|⟨h0,h1⟩:=h1
 .have d:decide (0<=x)=false:=by simpa using h1
  go_enter func207,ntmps207;go_wp2;go_ret;exact⟨by simp[d],ii⟩
 have d:decide (0<=x)=true:=cq3
 have e:decide (x<f)=false:=cm9
 go_enter func207,ntmps207;go_wp2;go_ret;exact⟨by simp[e],ii⟩
end
end
section
variable{af j:Nat}{F:Fx}{w w0:World}{m m0:Mem}{r:bH}{v:Value}
section
variable(A:At af F m0 w0 m w E)
include A
theorem At.cut{c:bH}{n:Nat}(o:m.aV r=b)(d:m.aV c=z)(t:c≠r)(p:aj m S' r=(aj m E r).take n)(q:aj m S' c=(aj m E c).set j v)(k:∀a,a≠r->a≠c->aj m S' a=aj m E a):At af F m0 w0 m (w.setCell ⟨z,j,none⟩ v) S':=by
 refine⟨A.mv.setCell (r:=c) d v,A.bj.inj,λa s f=>?_,λa g=>?_,A.bj.aB⟩
 .by_cases h:a=c
  .subst h;obtain rfl:s=z:=by rw[d]at f;exact(mx f).symm
   rw[q];exact⟨(A.bj.lies _ _ d).1,(A.bj.lies _ _ d).2.set j v⟩
  have l:=(A.bj.lies _ _ f).2.other (w':=w.setCell (z,j) v) (fQ (A.bj.ne f d h));refine⟨(A.bj.lies _ _ f).1,?_⟩;by_cases i:a=r
  .subst i;rw[p];exact l.take n
  rw[k a i h];exact l
 have i:a≠r:=λe=>by rw[e,o]at g;cases g
 have h:a≠c:=λe=>by rw[e,d]at g;cases g
 rw[k a i h];exact A.bj.none_ a g
theorem At.ai1(k:r.loose){c:bH}{n:Nat}{p:Nat×Nat}(nI:∀q,eI r=some q->q=p)(hp:m.aV c=z)(cM:c≠r)(hown:w.ownsRow af p.1 p.2 (.slice (some ⟨cp,0,none⟩) n X) n J)(g:m.aV r=cp\/(∀a,m.aV a≠cp)/\w0.heap.size<=cp)(l:aj (m.eG r cp X) S' r=J)(o:aj (m.eG r cp X) S' c=(aj m E c).set j v)(s:∀a,a≠r->a≠c->aj (m.eG r cp X) S' a=aj m E a):At af F m0 w0 (m.eG r cp X) (w.setCell ⟨z,j,none⟩ v) S':=by
 have t:∀a f,a≠r->m.aV a=some f->f≠cp:=by
  intro a f u i e;subst e;obtain h|h:=g
  .exact u (A.bj.inj a r _ i h)
  exact h.1 a i
 obtain⟨x,y⟩:=bL6;refine⟨pe.setCell (m:=m.eG r cp X) (r:=c) ⟨A.mv.os,A.mv.tape,A.mv.output,A.mv.size,A.mv.keep,λa b d=>?_⟩ ct6 _,?_⟩
 .by_cases e:a=r
  .subst e;rw[Mem.dL]at d;cases d;obtain h|h:=g
   .exact A.mv.old _ _ h
   exact .inr h.2
  rw[Mem.bN e]at d;exact A.mv.old _ _ d
 exact A.bj.row k hp cM (λC B=>by cases B;exact⟨x,by rw[l];exact y,t⟩) (nofun) o s
theorem At.NP(a:w.grownBy w' z)(d:(∀f,m.aV f≠z)/\w0.heap.size<=z):At af F m0 w0 m w' E:=by
 refine⟨⟨a.os.trans A.mv.os,a.tape.trans A.mv.tape,a.output.trans A.mv.output,jm A.mv.size a.size,λb c g=>?_,A.mv.old⟩,A.bj.heap λr b c=>a.block b (A.bj.lt c) (λe=>d.1 r (by rw[c];exact e))⟩;rw[a.block b (uB c A.mv.size) (λe=>by cases e;omega)];exact A.mv.keep b c g
theorem At.Ld{p:Nat×Nat}(n:eI r=p)(f:m.aV r=z)(o:aj m E r=[])(s:m.cap r=cp)(a:w.grownBy w' z)(d:w'.ownsRow af p.1 p.2 (.slice (some ⟨z,0,none⟩) X cp) X J):At af F m0 w0 m w' E:=by
 let⟨t,u⟩:=aQ0.aX1 (ty:=eI r) (p:=p) (λq g=>by rw[n]at g;exact(mx g).symm) d;refine⟨⟨a.os.trans A.mv.os,a.tape.trans A.mv.tape,a.output.trans A.mv.output,jm A.mv.size a.size,λb i k=>?_,A.mv.old⟩,A.bj.inj,λy l c=>?_,A.bj.none_,A.bj.aB⟩
 .rw[a.block b (uB i A.mv.size) (λe=>?_)]
  .exact A.mv.keep b i k
  cases e;obtain⟨B,h⟩|h:=A.mv.old r _ f
  .exact k B h
  omega
 by_cases e:y=r
 .subst e;obtain rfl:l=z:=by rw[f]at c;exact(mx c).symm
  rw[o,s];exact⟨t,by simpa using u.take 0⟩
 exact⟨(A.bj.lies _ _ c).1,(A.bj.lies _ _ c).2.other (a.block l (A.bj.lt c) (λx=>A.bj.ne c f e (mx x)))⟩
end
theorem At.cO(A:At af F m0 w0 m w E)(n:Int):At af F m0 w0 m (w.setCell ⟨F.Eg,4,none⟩ (I n)) {E with Eg:={E.Eg with cO:=n}}:=by
 refine A.set A.bj.aB.Eg ii ?_;exact cg5
theorem At.bV(A:At af F m0 w0 m w E)(k:Nat)(x:Bool):At af F m0 w0 m (w.setCell ⟨F.bV,k,none⟩ (B x)) {E with Eg:={E.Eg with bV:=E.Eg.bV.set k x}}:=by
 refine A.set A.bj.aB.bV (by simp[aj,at9]) ?_;exact cc9
theorem At.Vv(A:At af F m0 w0 m w E){n:Nat}(a:m.aV .aK=z)(c:n<=E.Eg.aK.length):At af F m0 w0 m (w.setCell ⟨F.Eg,3,none⟩ (.slice (some ⟨z,0,none⟩) n (m.cap .aK))) {E with Eg:={E.Eg with aK:=E.Eg.aK.take n}}:=by
 refine A.cut (n:=n) a A.bj.aB.Eg sX (by simp[aj,List.map_take]) ?_ ?_
 .simp[aj,Mem.de a,ar3 c]
 intro d e f
 cases d<;>first|exact aX ii e|exact aX ii f|rfl
theorem oG{c d:ce}{l:List ce}(h:l[z]?=c):(l.set z d)[X]?=if X=z then some d else l[X]?:=by
 grind
section
variable{c d:ce}(h:E.Eg.aC[z]?=c)
include h
theorem tg(o:Option Nat)(f:Nat):∀a,a≠bH.cache z->a≠ .aC->aj (m.eG (.cache z) o f) {E with Eg:={E.Eg with aC:=E.Eg.aC.set z d}} a=aj m E a:=by
 intro a i l
 cases a<;>first|exact aX ii l|rfl|(simp[aj,Mem.cU,Mem.eG,reduceCtorEq])|skip
 all_goals
  first
  |(rename_i k
    simp[aj,oG h]
    by_cases e:k=z
    .subst e;exact aX ii i
    .simp[aE e])
  |(simp[gk,Mem.cU,Mem.eG])
  |(·intro k x _)
theorem rM(e i:Nat):aj (m.eG (.cache z) e i) {E with Eg:={E.Eg with aC:=E.Eg.aC.set z d}} .aC=(aj m E .aC).set z (.slice (some ⟨e,0,none⟩) d.length i):=by
 have:=iZ (f:=je m) (f':=je (m.eG (.cache z) e i)) (k:=1) (λ_ _=>rfl) E.Eg.aC 0 z 0 c d (e,d.length,i) h oX (λn a l=>by
  simp[je,Mem.cU,Mem.eG];have:n≠z:=oX
  simp[this]) (by simp[je,Mem.cU,Mem.eG])
 simpa[aj]using this
end
theorem At.NQ(A:At af F m0 w0 m w E){g gb:Nat}{c d:ce}(h:E.Eg.aC[g]?=c)(a:w.ownsRow af 3 1 (.slice (some ⟨gb,0,none⟩) d.length cp) d.length (d.map I))(e:m.aV (.cache g)=gb\/(∀f,m.aV f≠gb)/\w0.heap.size<=gb):At af F m0 w0 (m.eG (.cache g) gb cp) (w.setCell ⟨F.aC,g,none⟩ (.slice (some ⟨gb,0,none⟩) d.length cp)) {E with Eg:={E.Eg with aC:=E.Eg.aC.set g d}}:=
 A.ai1 (p:=(3,1)) ii ck4 A.bj.aB.aC sX a e (by simp[aj,oG h]) (rM h gb cp) (tg h _ _)
end
namespace V
structure Ch where
 cap:Int
 len:Nat
 pP:Bool
structure Wt where
 g:Int
 op:cu
structure q9 where
 MP:List Ch
 ws:List Wt
structure Pt where
 av:Int
 ai:Int
 at_:Nat
def Xq(o:cu)(i:Int):Option Case:=
 if(o.ai=2\/o.ai=4)/\i= -1 then some ⟨true,o.ch,o.v⟩
 else if(o.ai=3\/o.ai=5)/\i= -1 then some ⟨false,o.ch,0⟩
 else if o.ai=9 then idx o.cases i else none
def Oth(M:q9)(g:Int)(s:Case):Prop:=∃u∈M.ws,∃i d,Xq u.op i=some d/\u.g≠g/\d.ch=s.ch/\d.cF≠s.cF
def May(M:q9)(g:Int)(s:Case):Prop:=∃c,idx M.MP (s.ch-1)=some c/\(c.pP\/c.cap=0/\Oth M g s\/s.cF/\c.len<c.cap\/s.cF=false/\0<c.len)
def aZ6(M:q9)(g:Int)(o:cu):Prop:=∃i s,Xq o i=some s/\May M g s
def bd8(M:q9)(a:Int)(c:Ch):List Ch:=M.MP.set (a-1).toNat c
inductive aU2 (M:q9) (o:cu) (i:Int) (r:nP):List Ch->Prop
 |still:(∀s c,Xq o i=some s->idx M.MP (s.ch-1)=some c->if s.cF then c.pP=true else c.len=0)->aU2 M o i r M.MP
 |make:o.ai=1->r.aJ=1->r.n=M.MP.length+1->aU2 M o i r (M.MP++[⟨o.n,0,false⟩])
 |close (c):o.ai=6->r.aJ=1->idx M.MP (o.ch-1)=some c->aU2 M o i r (bd8 M o.ch {c with pP:=true})
 |cF (s c):Xq o i=some s->s.cF->r.aJ=1->idx M.MP (s.ch-1)=some c->c.pP=false->c.len<c.cap->aU2 M o i r (bd8 M s.ch {c with len:=c.len+1})
 |recv (s c):Xq o i=some s->s.cF=false->r.aJ=1->r.ok->idx M.MP (s.ch-1)=some c->0<c.len->aU2 M o i r (bd8 M s.ch {c with len:=c.len-1})
def out(g:Int)(l:List Wt):List Wt:=l.filter λu=>u.g !=g
def ba8(a b:List Ch):Prop:=b.length=a.length/\∀(k:Nat) c,a[k]?=some c->c.pP=false->b[k]?=c
def cut(a n:Int):Int:=if n<a then 0 else a
def Cu(o:cu)(n:Int):cu:={o with ch:=if 2<=o.ai/\o.ai<=5 then cut o.ch n else o.ch,cases:=o.cases.map λc=>{c with ch:=cut c.ch n}}
def Lg(a:List (Int×Nat))(call:Int):Int:=a.foldl (λc x=>if x.1<call then(x.2:Int)else c) 0
def Ug(p:be)(m:Ex):Option cu:=(p[m.g.toNat]?).bind (·[m.op.toNat]?)
inductive bd3 (p:be) (l:List Ex) (pts:List Pt) (md:List (Int×Nat)) (k:Nat) (x:Pt) (m:Ex) (o:cu) (M:q9):Nat->q9->Prop
 |put:x.ai=1->¬(∃u∈M.ws,u.g=m.g)->¬aZ6 M m.g o->bd3 p l pts md k x m o M (k+1) ⟨M.MP,M.ws++[⟨m.g,o⟩]⟩
 |idle:x.ai≠1->bd3 p l pts md k x m o M (k+1) M
 |fire (r c):x.ai≠1->m.bF= -1->(m.re=0\/m.res=r)->aU2 M o m.fire r c->bd3 p l pts md k x m o M (k+1) ⟨c,out m.g M.ws⟩
 |both (y m2 M'):x.ai=2->pts[k+1]?=some y->y.ai=2->l[y.at_]?=some m2->ba8 M.MP M'.MP->(∀u,u∈M'.ws↔u∈M.ws/\u.g≠m.g/\u.g≠m2.g)->bd3 p l pts md k x m o M (k+2) M'
inductive Rp (p:be) (l:List Ex) (pts:List Pt):Nat->q9->List (Int×Nat)->Prop
 |nil:Rp p l pts 0 ⟨[],[]⟩ []
 |av (k M md x m o k' M'):Rp p l pts k M md->pts[k]?=some x->l[x.at_]?=some m->Ug p m=some o->bd3 p l pts md k x m (Cu o (Lg md m.call)) M k' M'->Rp p l pts k' M' (md++[(x.av,M'.MP.length)])
def be4(o:cu)(m:Ex)(c:Int):Prop:=o.ai=1/\m.res.aJ=1/\m.res.n=c
def bo3(o:cu)(m:Ex)(c:Int):Prop:=o.ai=6/\m.res.aJ=1/\o.ch=c
def bc4(o:cu)(m:Ex)(d:Case):Prop:=m.bF<0/\m.res.aJ=1/\Xq o m.fire=d/\(d.cF=false->m.res.ok)
structure Pk(p:be)(l:List Ex)(m0:Ex)(o0:cu):Prop where
 op:Ug p m0=o0
 arr:m0.bJ≠0->m0.call<=m0.bJ/\∀m∈l,m.lQ≠0->m.g=m0.g->m.lQ<m0.bJ
 side:∀i c,Xq o0 i=some c->∀m∈l,∀o,Ug p m=some o->m.lQ≠0->be4 o m c.ch->m.lQ<m0.call->m0.bJ≠0/\∀m∈l,∀o,Ug p m=some o->m.lQ≠0->¬bo3 o m c.ch/\∀d,bc4 o m d->d.ch=c.ch->d.cF≠c.cF->m.lQ<m0.bJ
structure ba9(l:List Ex)(pts:List Pt):Prop where
 sorted:∀(i j:Nat) x y,i<j->pts[i]?=some x->pts[j]?=some y->x.av<=y.av
 of:∀x∈pts,∃m,l[x.at_]?=some m/\(x.ai=1/\x.av=m.bJ\/x.ai=2/\x.av=m.lQ/\m.lQ≠0)
 all:∀(a:Nat) m,l[a]?=some m->m.bJ≠0->⟨m.bJ,1,a⟩∈pts
theorem bc5{o:cu}{i:Int}{s:Case}(h:Xq (Cu o Y) i=s):∃b,Xq o i=some b/\s.cF=b.cF/\s.ch=cut b.ch Y:=by
 unfold Xq Cu at h;unfold Xq;simp only at h;split at h
 .rename_i a;rw[aF a];cases h;exact⟨_,ii,ii,by rw[aF oX]⟩
 rename_i a;rw[aE a];split at h
 .rename_i a;rw[aF a];cases h;exact⟨_,ii,ii,by rw[aF oX]⟩
 rename_i a;rw[aE a];split at h
 .rename_i a;rw[aF a];unfold idx at h ⊢;split at h
  .rw[aF uX];rw[na]at h
   cases d:o.cases[i.toNat]? with
   |none=>rw[d]at h;cases h
   |some c=>rw[d]at h;cases h;exact⟨c,ii,ii,ii⟩
  cases h
 cases h
theorem be5(a:List (Int×Nat))(call:Int):Lg a call=0\/∃e∈a,e.1<call/\Lg a call=e.2:=by
 suffices h:∀(l:List (Int×Nat)) (c:Int),(l.foldl (λc x=>if x.1<call then(x.2:Int)else c) c=c)\/∃e∈l,e.1<call/\l.foldl (λc x=>if x.1<call then(x.2:Int)else c) c=e.2 from h a 0
 intro l;induction l with
 |nil=>exact λc=>.inl rfl
 |cons e l ih=>
  grind
theorem bb3(a:List (Int×Nat))(e:Int×Nat){call:Int}(h:call<=e.1):Lg (a++[e]) call=Lg a call:=by
 unfold Lg;simp;omega
structure LI(p:be)(l:List Ex)(pts:List Pt)(m0:Ex)(o0:cu)(a0 k:Nat)(M:q9)(md:List (Int×Nat)):Prop where
 a:∀c:Int,1<=c->c<=M.MP.length->∃m∈l,∃o,Ug p m=some o/\be4 o m c/\m.lQ≠0/\∃j y,j<k/\pts[j]?=some y/\y.av=m.lQ
 b:∀e∈md,∀c:Int,1<=c->c<=e.2->∃m∈l,∃o,Ug p m=some o/\be4 o m c/\m.lQ≠0/\m.lQ<=e.1
 e:∀e∈md,e.2<=M.MP.length
 d:m0.bJ≠0->∀j,j<k->pts[j]?=some ⟨m0.bJ,1,a0⟩->⟨m0.g,Cu o0 (Lg md m0.call)⟩∈M.ws/\¬aZ6 M m0.g (Cu o0 (Lg md m0.call))
section
variable{p:be}{l:List Ex}{pts:List Pt}{m0:Ex}{o0:cu}{M M':q9}{md:List (Int×Nat)}
theorem LI.cZ(I:LI p l pts m0 o0 z X M md)(K:Pk p l m0 o0){i:Int}{s:Case}(h:Xq (Cu o0 (Lg md m0.call)) i=s)(w:1<=s.ch):m0.bJ≠0/\∀m∈l,∀o,Ug p m=some o->m.lQ≠0->¬bo3 o m s.ch/\∀d,bc4 o m d->d.ch=s.ch->d.cF≠s.cF->m.lQ<m0.bJ:=by
 let⟨a,f,g,c⟩:=bc5 h;have j:s.ch=a.ch/\a.ch<=Lg md m0.call:=by unfold cut at c;split at c<;>omega
 obtain x|⟨e,n,y,A⟩:=be5 md m0.call
 .omega
 let⟨m,q,o,r,t,u,v⟩:=I.b e n a.ch oX oX;rw[j.1,g];exact K.side i a f m q o r u t oX
theorem br8(e:∀i s d,Xq o0 i=some s->idx M'.MP (s.ch-1)=some d->idx M.MP (s.ch-1)=d\/May M m0.g s)(f:∀i s,Xq o0 i=some s->Oth M' m0.g s->(∃c,idx M.MP (s.ch-1)=some c/\c.cap=0)->Oth M m0.g s)(h:¬aZ6 M m0.g o0):¬aZ6 M' m0.g o0:=by
 rintro⟨i,s,a,c,j,m⟩;obtain b|b:=e i s c a j
 .refine h ⟨i,s,a,c,b,?_⟩;obtain h|⟨h,n⟩|h|h:=m
  .exact .inl h
  .exact .inr (.inl ⟨h,f i s a n ⟨c,b,h⟩⟩)
  .exact .inr (.inr (.inl h))
  exact .inr (.inr (.inr h))
 exact h ⟨i,s,a,b⟩
theorem aT5{α:Type}{l:List α}{j:Int}{a:α}(b:0<=Y)(h:Y≠j):idx (l.set Y.toNat a) j=idx l j:=by
 unfold idx;split
 .rw[oA oX]
 rfl
theorem bb2{α:Type}{l:List α}{a:α}(h:idx l Y=a):0<=Y/\Y<l.length:=by
 unfold idx at h;split at h
 .have:=um h;omega
 cases h
theorem bv9{α:Type}{l:List α}{a b:α}(h:idx (l++[b]) Y=a)(c:Y<l.length):idx l Y=a:=by
 unfold idx at h ⊢;split at h
 .rw[aF uX];rwa [Ev oX]at h
 cases h
theorem aU2.len{o:cu}{r:nP}{c:List Ch}(h:aU2 M o Y r c):M.MP.length<=c.length:=by
 cases h<;>simp[bd8]
theorem LI.av{x:Pt}{m:Ex}{o:cu}{k':Nat}(I:LI p l pts m0 o0 z X M md)(K:Pk p l m0 o0)(T:ba9 l pts)(h0:l[z]?=m0)(R:∀m∈l,m.lQ≠0->m.re≠0)(A:pts[X]?=x)(E:l[x.at_]?=m)(ho:Ug p m=o)(S:bd3 p l pts md X x m (Cu o (Lg md m.call)) M k' M'):LI p l pts m0 o0 z k' M' (md++[(x.av,M'.MP.length)]):=by
 have UR:=lf E;have hk:X<k':=by cases S<;>omega
 have a8:M.MP.length<=M'.MP.length:=by
  cases S with
  |fire r c _ _ _ h=>exact h.len
  |both _ _ _ _ _ _ _ h=>rw[h.1];exact rx _
  |_=>exact rx _
 have H:∀(j:Nat) (y:Pt) (m:Ex),pts[j]?=some y->l[y.at_]?=some m->y.ai≠1->y.av=m.lQ/\m.lQ≠0:=λj y m t n F=>by let⟨m',U,e2⟩:=T.of y (lf t);rw[n]at U;cases U;omega
 have ha:∀c:Int,1<=c->c<=M'.MP.length->∃m∈l,∃o,Ug p m=some o/\be4 o m c/\m.lQ≠0/\∃j y,j<X+1/\pts[j]?=some y/\y.av=m.lQ:=λc t n=>by
  by_cases F:c<=M.MP.length
  .let⟨m,W,o,Y,Z,a4,j,y,a5,J⟩:=I.a c t F;exact⟨m,W,o,Y,Z,a4,j,y,oX,J⟩
  cases S with
  |fire r ch C _ hr h=>
   have q:=H X x m A E C
   cases h with
   |make U e2 f=>
    have Q:m.res=r:=hr.resolve_left (R m UR q.2);simp[List.length_singleton]at n;exact⟨m,UR,o,ho,⟨U,by rw[Q];exact e2,by rw[Q,f];omega⟩,q.2,X,x,oX,A,q.1⟩
   |_=>simp[bd8]at n;omega
  |both _ _ _ _ _ _ _ h=>have:=h.1;omega
  |put _ _ _=>exact aX n F
  |idle _=>omega
 have jf:∀(j:Nat) y,j<X->pts[j]?=some y->y.av<=x.av:=λj y t n=>T.sorted j X y x t n A
 refine⟨λc t n=>?_,λe w c t n=>?_,λe w=>?_,λt j hj q=>?_⟩
 .let⟨m,W,o,Y,Z,a4,j,y,a5,J⟩:=ha c t n;exact⟨m,W,o,Y,Z,a4,j,y,oX,J⟩
 .obtain w|w:=ae4.1 w
  .exact I.b e w c t n
  obtain rfl:=ae6.1 w;let⟨m,W,o,Y,Z,a4,j,y,a5,J,f⟩:=ha c t n;refine⟨m,W,o,Y,Z,a4,?_⟩;rw[<-f];by_cases Zm:j=X
  .subst Zm;rw[A]at J;cases J;exact ae1 _
  exact jf j y oX J
 .obtain w|w:=ae4.1 w
  .exact jm (I.e e w) a8
  obtain rfl:=ae6.1 w;exact rx _
 let⟨k1,k2⟩:=K.arr t;by_cases Zm:j<X
 .have a9:=jf j _ Zm q;simp only at a9;rw[bb3 _ _ ci9];let⟨d1,d2⟩:=I.d t j Zm q
  have cM:∀(j:Nat) (y:Pt) (m:Ex),X<=j->pts[j]?=some y->l[y.at_]?=some m->y.ai≠1->m.g≠m0.g/\m0.bJ<=m.lQ:=λj y m t n F h4=>by
   let⟨U,e2⟩:=H j y m n F h4
   have:x.av<=y.av:=by
    obtain h|h:=aj8 X j
    .exact T.sorted X j x y h A n
    obtain rfl:j=X:=oX
    rw[A]at n;cases n;exact ae1 _
   exact⟨λhg=>by have:=k2 m (lf F) e2 hg;omega,oX⟩
  cases S with
  |put b1 b2 b3=>
   refine⟨as6 _ d1,br8 (M:=M) (λi s c _ h=> .inl h) (λi s L hO f=>?_) d2⟩;let⟨u,v,i',d,u1,u2,u3,B⟩:=hO;obtain v|v:=ae4.1 v
   .exact⟨u,v,i',d,u1,u2,u3,B⟩
   .obtain rfl:=ae6.1 v;let⟨c,c1,c2⟩:=f;exact aX ⟨i',d,u1,c,by rw[u3];exact c1,.inr (.inl ⟨c2,_,d1,i,s,L,λh=>u2 h.symm,u3.symm,λh=>B h.symm⟩)⟩ b3
  |idle _=>exact⟨d1,d2⟩
  |fire r ch C hw hr h=>
   let⟨n1,n2⟩:=cM X x m cG A E C;have q:=H X x m A E C;have Q:m.res=r:=hr.resolve_left (R m UR q.2);refine⟨List.mem_filter.2 ⟨d1,by simpa using λh=>n1 h.symm⟩,br8 (M:=M) (λi s c' L f=>?_) (λi s L hO _=>?_) d2⟩
   .have hb:=bb2 f;have mm:=((λ{i s} h=>I.cZ K (i:=i) (s:=s) h) L oX).2 m UR o ho q.2;have lone:∀B,Xq (Cu o (Lg md m.call)) m.fire=some B->r.aJ=1->(B.cF=false->r.ok=true)->B.ch=s.ch->B.cF=s.cF:=λB D G N q4=>ww λq5=>by let⟨s0,f1,f2,f3⟩:=bc5 D;have:=mm.2 s0 ⟨oX,by rw[Q];exact G,f1,by rw[<-f2,Q];exact N⟩ (by unfold cut at f3;split at f3<;>omega) (by rw[<-f2];exact q5);omega
    cases h with
    |still _=>exact .inl f
    |make _ _ _=>
     refine .inl (bv9 f ?_);let⟨s0,f1,f2,f3⟩:=bc5 L;have:s.ch<=Lg md m0.call:=by unfold cut at f3;split at f3<;>omega
     obtain g|⟨e,O,g2,g3⟩:=be5 md m0.call
     .omega
     .have:=I.e e O;omega
    |close c D G N=>
     by_cases O:s.ch=o.ch
     .exact aX ⟨D,by rw[Q];exact G,O.symm⟩ mm.1
     .have w:(Cu o (Lg md m.call)).ch=o.ch:=(by have D:o.ai=6:=D;unfold Cu;simp only;rw[aE oX]);have:=bb2 N;rw[w]at this;unfold bd8 at f;rw[w,aT5 oX oX]at f;exact .inl f
    |cF B c D G N q4 q5 q6=>
     by_cases O:B.ch=s.ch
     .exact .inr ⟨c,by rw[<-O];exact q4,.inr (.inr (.inl ⟨(lone B D N (λh=>by rw[G]at h;cases h) O).symm.trans G,q6⟩))⟩
     .have:=bb2 q4;unfold bd8 at f;rw[aT5 oX oX]at f;exact .inl f
    |recv B c D G N q4 q5 q6=>
     by_cases O:B.ch=s.ch
     .exact .inr ⟨c,by rw[<-O];exact q5,.inr (.inr (.inr ⟨(lone B D N (λ_=>q4) O).symm.trans G,q6⟩))⟩
     have:=bb2 q5;unfold bd8 at f;rw[aT5 oX oX]at f;exact .inl f
   .let⟨u,v,r⟩:=hO;exact⟨u,(List.mem_filter.1 v).1,r⟩
  |both y D _ c1 c2 c3 c4 G N=>
   let⟨n1,_⟩:=cM X x m cG A E oX;let⟨n2,_⟩:=cM (X+1) y D oX c2 c4 oX;refine⟨(N _).2 ⟨d1,λh=>n1 h.symm,λh=>n2 h.symm⟩,br8 (M:=M) (λi s c' L f=>?_) (λi s L hO _=>?_) d2⟩
   .have hb:=bb2 f;let⟨c,B⟩:∃c,idx M.MP (s.ch-1)=some c:=⟨_,by unfold idx;rw[aF hb.1];exact fv (by have:=G.1;omega)⟩;by_cases O:c.pP=true
    .exact .inr ⟨c,B,.inl O⟩
    left;unfold idx at f B ⊢;rw[aF hb.1]at f B ⊢;rw[G.2 _ c B (by simpa using O)]at f;rw[B,f]
   let⟨u,v,r⟩:=hO;exact⟨u,((N u).1 v).1,r⟩
 have f:j=X\/j=X+1/\k'=X+2:=by cases S<;>omega
 cases S with
 |put b1 b2 b3=>
  obtain rfl:j=X:=oX
  rw[A]at q;cases q;simp only at E;rw[h0]at E;cases E;rw[K.op]at ho;cases ho;rw[bb3 _ _ k1];refine⟨sX,λh=>b3 ?_⟩;let⟨i,s,t,c,n,F⟩:=h;refine⟨i,s,t,c,n,?_⟩;obtain h|⟨h,u,v,i',d,u1,u2,u3⟩|h:=F
  .exact .inl h
  .obtain v|v:=ae4.1 v
   .exact .inr (.inl ⟨h,u,v,i',d,u1,u2,u3⟩)
   obtain rfl:=ae6.1 v;exact aX ii u2
  .exact .inr (.inr h)
 |idle b=>
  obtain rfl:j=X:=oX
  rw[A]at q;cases q;exact aX ii b
 |fire r ch b=>
  obtain rfl:j=X:=oX
  rw[A]at q;cases q;exact aX ii b
 |both y D _ c1 c2 c3=>
  rcases f with rfl|⟨rfl,_⟩
  .rw[A]at q;cases q;simp at c1
  rw[c2]at q;cases q;simp at c3
theorem quiet(K:Pk p l m0 o0)(T:ba9 l pts)(r:l[z]?=m0)(f:∀m∈l,m.lQ≠0->m.re≠0)(R:Rp p l pts pts.length M md):¬aZ6 M m0.g (Cu o0 (Lg md m0.call)):=by
 have I:∀X M md,Rp p l pts X M md->LI p l pts m0 o0 z X M md:=by
  intro X M md R;induction R with
  |nil=>exact⟨λc b a=>by simp at a;omega,λe n=>by simp at n,λe n=>by simp at n,λ_ j q=>oX⟩
  |av X M md x m o u M' _ b a n t ih=>exact ih.av K T r f b a n t
 have I:=I _ _ _ R;by_cases n:m0.bJ=0
 .rintro⟨i,s,b,c,a,_⟩;have:=bb2 a;exact(I.cZ K b oX).1 n
 let⟨j,q⟩:=ae3.1 (T.all z m0 r n);exact(I.d n j (um q) q).2
end
end V
section
variable{P:Program}{md:Region.Mode}{ops:Array Oper}{Q:Exit->Act->World->Prop}{S:World->Prop}{L n i:Nat}{l:Array Bool}{a:Act}{w:World}
def aW3(P:Program)(md:Region.Mode)(ops:Array Oper)(Q:Exit->Act->World->Prop)(S:World->Prop)(L:Nat):Nat->Array Bool->Act->World->Prop
 |0,l,a,w=>Region.ready md ops l=[]/\Q .normal a w
 |n+1,l,a,w=>(Region.ready md ops l=[]->Q .normal a w)/\∀i∈Region.ready md ops l,wpOp P ops Q i (λc b=>(i≠L->S b)/\aW3 P md ops Q S L n (l.setIfInBounds i true) c b) a w
theorem aW3.any:∀(n:Nat) (l:Array Bool) (a:Act) (w:World),aW3 P md ops Q S L n l a w->wpAny P md ops Q n l a w
 |0,_,_,_,h=>h
 |n+1,_,_,_,h=>⟨h.1,λi b=>wpOp_mono (λa w h=>aW3.any n _ a w h.2) (h.2 i b)⟩
theorem aW3.take{o:Oper}{v:Value}(A:ops[i]?=o)(B:Region.noSelect ops)(D:∀c a w,Q (.panic c) (a.put o.dst v) w->Q (.panic c) a w)(O:(ops[L]?.any λu=>u.after.any λe=>Region.binds md e&&e.on==i)):∀{n:Nat} {l:Array Bool} {a:Act} {w:World},Region.free md ops l i->(Region.ready md ops l).contains i->YieldsIf P ops S o v a->S w->aW3 P md ops Q S L n (l.setIfInBounds i true) (a.put o.dst v) w->aW3 P md ops Q S L (n+1) l a w:=by
 have m:∀(l:Array Bool),i∈Region.ready md ops l->∀j∈Region.ready md ops l,∀u,ops[j]?=some u->∀e∈u.after,Region.binds md e=true->e.on≠i:=λl f j g u p e R T E=>by grind [mem_ready]
 have main:∀(n:Nat) (l:Array Bool) (a:Act) (w:World),(∀j u,ops[j]?=some u->j≠i->l.getD j true=false->(∀e∈u.after,Region.binds md e=true->e.on≠i)->o.apart ops u=true)->i∈Region.ready md ops l->YieldsIf P ops S o v a->S w->aW3 P md ops Q S L n (l.setIfInBounds i true) (a.put o.dst v) w->aW3 P md ops Q S L (n+1) l a w:=by
  intro n;induction n with
  |zero=>
   refine λl a w _ f C F H=>⟨λh=>(by rw[h]at f;cases f),λj g=>?_⟩;by_cases d:j=i
   .grind [YieldsIf.wpOp]
   .have:=ready_mono g d;rw[H.1]at this;cases this
  |succ n ih=>
   refine λl a w s f C F H=>⟨λh=>(by rw[h]at f;cases f),λj g=>?_⟩;by_cases d:j=i
   .grind [YieldsIf.wpOp]
   let⟨q,u,p,_⟩:=mem_ready.1 g;have G:=m l f j g u p;have r:j≠L:=cp2;refine wpOp_mono (λI J t=>⟨λ_=>t.2.1 r,ih _ I J (λk y K x U M=>?_) (ready_mono f (dE d)) t.1 (t.2.1 r) ?_⟩) (wpOp_putIf p (s j u p d q G) (λz b=>Region.noSelect_spec B i o z b A) (λz b=>Region.noSelect_spec B j u z b p) D C (H.2 j (ready_mono g d)))
   .refine s k y K x ?_ M;by_cases N:j=k
    .rw[<-N];exact q
    simp_all
   grind [Array.setIfInBounds_comm]
 exact λn l a w s f=>main _ _ _ _ (Region.free_spec A s) (by simpa using f)
theorem aW3.region{id:Nat}(b:P.follows .mixedOrders)(h:aW3 P .any ops Q S L ops.size (Array.replicate ops.size false) a w.drew):(Code.region id ops true).wp P Q a w:=wp_region_any b (aW3.any _ _ _ _ h)
def aB2(P:Program)(md:Region.Mode)(ops:Array Oper)(Q:Exit->Act->World->Prop)(S:World->Prop)(L n:Nat)(l:Array Bool)(a:Act)(w:World)(c:bv):Prop:=∀i∈c,wpOp P ops Q i (λd b=>(i≠L->S b)/\aW3 P md ops Q S L n (l.setIfInBounds i true) d b) a w
theorem aB2.nil:aB2 P md ops Q S L n l a w []:=λ_ h=>ck3
theorem aB2.cons{o:Oper}{c:bv}(d:ops[i]?=o)(h:∀K:Act->World->Prop,Shut (∀a w,(i≠L->S w)->aW3 P md ops Q S L n (l.setIfInBounds i true) a w->K a w)->if Region.wanted o (yielded ops a.tmps)=true then Oper.wp P o a w K Q else K (a.put o.dst undef) w)(e:aB2 P md ops Q S L n l a w c):aB2 P md ops Q S L n l a w (i::c):=λj b=>by
 obtain rfl|b:=iL.1 b
 .exact wpOp_step d λK f=>h K λa w g k=>f a w ⟨g,k⟩
 exact e j b
theorem aW3.ready{rs:bv}(b:Region.ready md ops l=rs)(c:rs≠[])(h:aB2 P md ops Q S L n l a w rs):aW3 P md ops Q S L (n+1) l a w:=⟨λd=>aX (b▸d) c,b▸h⟩
theorem aW3.done(b:Region.ready md ops l=[])(h:Q .normal a w):∀n,aW3 P md ops Q S L n l a w
 |0=>⟨b,h⟩
 |_+1=>⟨λ_=>h,by rw[b];simp⟩