import Derived.Maps.OwnOps
import Derived.Maps.Views
import Derived.StillTailTactics
import Derived.Deep.Cut
import Derived.Deep.CutBlock
import Derived.Deep.CutRange
import Derived.Deep.RegionWith
import Derived.Deep.WholeRow
import Derived.Shelf.Bits.Mul64
import Derived.ChangeOld
import Derived.ChangeSame
import Derived.Deep.Fields
import Derived.Deep.Grids
import Derived.Deep.Slices
import Derived.Deep.Strs
import Derived.OpenShut
import Derived.ProofKit
import Derived.BigQuiet
import Derived.BigRegion
import Derived.Deep.DeepFit
import Derived.Deep.LoopGhost
import Derived.Deep.QuietTactic
import Derived.Deep.RegionHeld3
import Derived.Lib.Hide
import Derived.Test.YtadifmnmfnihdaaGreatRows
import Derived.WalkKit
import Derived.WalkLawsBesides
import Derived.WalkSpells
import Derived.Laws.AppendOwnNone
import Derived.Laws.CopyOwn
import Derived.Deep.AppendLies
import Derived.Deep.RegionLaw
set_option linter.all false
set_option maxRecDepth 100000
set_option maxHeartbeats 40000000
namespace Go.Proofs.YtadifmnmfnihdaaGreat
theorem ah9{P:Prop}(h:P:=by
 obtain⟨l1,l2,l3,l4,l5,l6,l7,l8,l9,kN,kO,kP,kQ,kR,mT,mU,kS,mV,kT,kY,mW,kU,kV,kW⟩:=L;refine⟨?_,?_,?_⟩
 ·constructor<;>simp only[e,hp,aW,aT,bm,eV]at*<;>grind
 ·constructor<;>simp only[e,hp,aW,aT,bm,bG]at*<;>grind
 ·intro c;simp only[aL,e,cH,hp];grind):P:=h
theorem aw1{P:Prop}(h:P:=by go_simp;refine hK _ _ ?_;clear hK K;refine wpAny_ready (rs:=[7]) (by kernel_rfl) (by simp) (AllReady.cons rfl (fun K hK=>?_) AllReady.nil);refine qR (us:=(NC la ln lc)) (w2:=w5) rfl (.tmp 96) (.tmp 98) 35 rfl underlying35 gi RO RP RQ rfl (by decide) (by decide) rfl rfl (by simp[Value.oneCell']) (.slice va j vc) j _ rfl Yh rfl (by omega) M0 ?_;intro gg hU w9 jl bX bE;have kz:(w5.alloc (.cells (NC la ln lc) 100)).grownBy w9 (Value.slice va j vc).ownBlock:=lZ bX rfl rfl rfl rfl;have Ae:w9.heap[wb]?=w5.heap[wb]?:=(by rw[kz.block wb (by simp;omega) (fun e=>NA.out e.symm),gf _ _ _ lwb]);have d3:w9.cell? ⟨wb,3,none⟩=some (.slice va j vc):=(kZ Ae).trans c3;have Yi:w9.frozen? ⟨wb,3,none⟩=false:=(xp Ae).trans Yg;have H9:=ag (dO jl (dO kz bE));clear jl bX bE kz Ae;refine hK _ _ ?_;clear hK K;refine wpAny_ready (rs:=[8]) (by kernel_rfl) (by simp) (AllReady.cons rfl (fun K hK=>?_) AllReady.nil);go_simp;refine hK _ _ ?_;clear hK K;refine wpAny_ready (rs:=[9]) (by kernel_rfl) (by simp) (AllReady.cons rfl (fun K hK=>?_) AllReady.nil);go_simp;refine hK _ _ ?_;clear hK K;refine wpAny_ready (rs:=[10]) (by kernel_rfl) (by simp) (AllReady.cons rfl (fun K hK=>?_) AllReady.nil);go_simp;refine hK _ _ ?_;clear hK K;refine wpAny_done (by kernel_rfl) ?_ _;exact HQ _ _ _ _ _ _ _ _ _ _ _ gg hU H9.out.1 H9.out.2.1 (by simpa using H9.out.2.2)):P:=h
theorem ax7{P:Prop}(h:P:=by
 obtain⟨l1,l2,l3,l4,l5,l6,l7,l8,l9,kN,kO,kP,kQ,kR,mT,mU,kS,mV,kT,kY,mW,kU,kV,kW⟩:=L;refine⟨?_,?_⟩
 ·constructor<;>simp only[e,hp,aW,aT,bm,bG]at*<;>grind
 ·intro c;simp only[aL,e,cH,bC,hp];try grind):P:=h
theorem ax8{P:Prop}(h:P:=by constructor<;>simp only[e,hp,aW,aT,bm,bG]at*<;>grind):P:=h
theorem az2{P:Prop}(h:P:=by
 refine⟨s1.mk' rfl rfl rfl,?_,?_⟩
 ·refine⟨fun h=>?_,fun h=>?_,fun h=>?_⟩<;>simp only[hp]at h ⊢<;>omega
 ·obtain⟨a1,a2,a3,a4,a5,a6,a7⟩:=s3;clear fX cP ja s1 s2 L;constructor<;>simp only[hp,e]at*<;>grind):P:=h
theorem aA4{P:Prop}(h:P:=by constructor<;>simp only[e,hp,aW,aT,bm,eV]at*<;>grind):P:=h
theorem aB2{P:Prop}(h:P:=by
 have hn:¬(y.ae=31∨y.ae=32):=fun h=>by have:=(U1.bk oz).2 h;rw[B9]at this;cases this
 have ZQ:aW y:=by
  rcases b6 with⟨h,_⟩|⟨_,h⟩
  ·exact aX oz h
  ·right;refine⟨oz,?_⟩;rcases h with⟨h,_⟩|h|h|h|⟨h,_⟩|⟨h,_⟩
   ·exact .inl h
   ·exact .inr (.inl h)
   ·exact .inr (.inr (.inl h))
   ·exact .inr (.inr (.inr h))
   ·exact aX (.inl h) hn
   ·exact aX (.inr h) hn
 refine⟨ZQ,?_⟩;have h1:=U1.aN.1;by_cases h2:0≤y.aN
 ·have:=(U1.bk oz).1 ZQ h2;rw[B9]at this;cases this
 ·omega):P:=h
theorem aW3{P:Prop}(h:P:=by refine⟨fun h=>?_,fun h=>?_,fun h=>?_⟩<;>simp only[hp]at h ⊢<;>omega):P:=h
theorem aW4{P:Prop}(h:P:=by
 go_wp2;go_quiet (fail);go_wp2;refine bodyPost_ret (v:=.agg #[I 0,I 0,I 0,I 0,.slice none 0 0,B false]) ?_ rfl ?_
 ·simp[results,Tryz.results92,go_sem]
 ·have hB:Below w.heap.size w ((((((((w.alloc (.cells #[.int .i64 0,.int .i64 0,.int .i64 0,.int .i64 0,.slice none 0 0,.bool false] 49)).drewN nq).setCell ⟨w.heap.size,0,none⟩ (I 0)).setCell ⟨w.heap.size,1,none⟩ (I 0)).setCell ⟨w.heap.size,2,none⟩ (I 0)).setCell ⟨w.heap.size,3,none⟩ (I 0)).setCell ⟨w.heap.size,4,none⟩ (.slice none 0 0)).setCell ⟨w.heap.size,5,none⟩ (B false)):=
   (((((((below_drewN ((fp _ _).alloc cG _) _).setCell cG _).setCell cG _).setCell cG _).setCell cG _).setCell cG _).setCell cG _)
  exact⟨_,rfl,HR.out.heap hB,.inl ⟨rfl,rfl⟩⟩):P:=h
theorem aW5{P:Prop}(h:P:=by go_wp2;go_ret;exact⟨rfl,rfl⟩):P:=h
theorem aW6{P:Prop}(h:P:=by rw[hf _ (by simp) (by simp) (by simp) (by simp)];rfl):P:=h
theorem aW7{P:Prop}(h:P:=by
 rcases rj with⟨h1,_⟩|⟨h1,_⟩
 ·rw[h1]at e;cases e
 ·rw[h1]at e;cases e;omega):P:=h
theorem aW8{P:Prop}(h:P:=by intro c;simp only[aL,e,cH,bC,hp];try grind):P:=h
theorem aW9{P:Prop}(h:P:=by
 have Vu:W3.heap.size=w2.heap.size+1:=by rw[hW];simp
 have hm:(n+1)*bytes≤140737488355328:=by have:=Nat.mul_le_mul (show n+1≤1000001 by omega) hbb;omega
 refine wp_append_lies W3 s x t ho af e i z size bytes ht hi hz hsize hby hzs hsz v n xs hs (ou hown hW) ⟨w2.heap.size,0,none⟩ 1 1 us.toList hx (by simpa using hus) (Bx hW) h1 (by omega) (by unfold maxLen;omega) hm (by omega) _ rfl ?_;intro g cap w' ho hg hw hl;exact h g cap w' ho hg (by rcases hw with hw|hw;exact .inl hw;right;omega)):P:=h
theorem aX0{P:Prop}(h:P:=by go_wp2_with (go_at_call 92;refine(dw HR g HX HO dj).mono ?_;rintro e w1 ⟨⟨cv,rfl,gE⟩,A1⟩;obtain⟨ca,cc,rfl⟩:=dm.shape gE;have iv:=ag (A1.alloc (eD o ca cc));clear A1 gE);go_ret;exact⟨rfl,m,iv.out.aI⟩):P:=h
theorem aX1{P:Prop}(h:P:=by
 obtain⟨d,hu,hd⟩:=PT;have vT:tmps[p]?.getD undef=.pointer (some ⟨b,0,none⟩):=by simpa using hp
 have hr:(loadVar 44 ⟨b,0,none⟩).run prog w=.ok (.agg #[v0,v1,v2,v3,v4]) w:=by
  cases d with
  |struct f=>exact run_loadVar_row w b 44 44 #[v0,v1,v2,v3,v4] fr _ hg hu rfl zA
  |array f e=>exact run_loadVar_row w b 44 44 #[v0,v1,v2,v3,v4] fr _ hg hu rfl zA
  |_=>cases hd
 simp[results,h,vT,asAddr,hr]):P:=h
theorem aX2{P:Prop}(h:P:=by
 go_wp2_with fail
 refine(pI _ HR.out.bj).mono ?_;rintro e w' ⟨rfl,rfl⟩;go_wp2;go_ret;exact⟨rfl,Ap⟩):P:=h
theorem aX3{P:Prop}(h:P:=by go_wp2;go_ret;exact⟨rfl,HR⟩):P:=h
theorem aX4{P:Prop}(h:P:=by
 intro c;unfold aL;rw[e,aF hk,aF hk];have e1:bC x=(x.k-1).toNat+1:=(by simp[bC,hp];omega);have e2:bC y=(x.k-1).toNat:=by subst hy;simp[bC,hp];try omega
 have pJ:y.aq=x.aq:=(by subst hy;rfl);have dD:(x.k-1).toNat<x.aq.length:=(by omega);rw[e1,e2,pJ,qj dD];constructor
 ·intro h;exact⟨.inl h,fun h2=>OD fX h2 h⟩
 ·rintro⟨h|h,h2⟩
  ·exact h
  ·exact aX h h2):P:=h
theorem aX5{P:Prop}(h:P:=by refine bodyPost_ret (mJ rfl _ _ (w.heap.size+1) _ _ _ _ _ (0,0) rfl (kF X.head _ _ _ _ _)) rfl ?_;refine⟨rfl,At.xF ?_ (X.loc _ (rn ..)).2 (Nat.le_succ _) _ _ _ _ _⟩;exact X.at_.aI):P:=h
theorem aX6{P:Prop}(h:P:=by
 obtain⟨d,hu,hd⟩:=hu;have vT:tmps[p]?.getD undef=.pointer (some ⟨b,0,none⟩):=by simpa using hp
 have hr:(loadVar ty ⟨b,0,none⟩).run prog w=.ok (.agg cs) w:=by
  cases d with
  |struct f=>exact run_loadVar_row w b t ty cs fr _ hg hu rfl hi
  |array f e=>exact run_loadVar_row w b t ty cs fr _ hg hu rfl hi
  |_=>cases hd
 simp[results,h,vT,asAddr,hr]):P:=h
theorem aX7{P:Prop}(h:P:=by refine bodyPost_ret (results_none rfl _ _ _) rfl ?_;exact⟨rfl,HA.out.aI⟩):P:=h
theorem aX8{P:Prop}(h:P:=by cases hm;clear R aG gv RY hr pL fA eK hh hn hp;unfold bR;go_enter func165,ntmps165;go_wp2_with (first|(go_at_call 138;refine HM.out.mono ?_;rintro e w1 ⟨rfl,rfl⟩)|(go_at_call 53;go_in)|(go_at_call 208;refine(BH Ap.out.bj HR uv lP sd.v).mono ?_;rw[Nq.out,En.out];rintro e wN ⟨rfl,A⟩;have HA:=ag A;clear A));go_ret;exact⟨rfl,HA⟩):P:=h
theorem aX9{P:Prop}(h:P:=by go_wp2_with (first|(at_builtin;refine gO rfl (.const (.slice none 0 0)) (.tmp 109) 28 rfl underlying28 hi rfl _ _ rfl ?_)|(go_at_call 159;refine(IB (af:=af) (F:=F) (w0:=w) (m0:=m) ?_ HM2).mono ?_;exact⟨_,vV.out.aI⟩;rintro e w5 ⟨rfl,A6⟩;have Wf:=ag A6;clear A6));go_ret;exact⟨rfl,Wf⟩):P:=h
theorem aY0{P:Prop}(h:P:=by
 rw[sW]at h;split at h
 ·rename_i e;split at h
  ·cases h;exact .inl ⟨e.symm,rfl⟩
  ·cases h
 ·rename_i e;exact .inr ⟨fun e'=>e e'.symm,h⟩):P:=h
theorem aY1{P:Prop}(h:P:=by
 go_wp2;go_roundw
 case rel=>exact⟨j+1,by go_num,by omega,HB8⟩
 case measure=>simp[intOf];omega):P:=h
theorem aY2{P:Prop}(h:P:=by rintro e w' ⟨b,g,q,cur,yy,rfl,f1,f2,f3,f4,f5,f6,f7,f8,f9,f10,f11,f12⟩;exact⟨b,g,q,rfl,H.Y8 f12 _ _ _ _ _ _ _ _ _ _ _ _ f6 (fF f1 rfl (fun p h=>by simp[eI]at h)) f7 (fF f2 f3 (fun p h=>by simp[eI]at h)) f8 (fF f4 f5 (fun p h=>by simp[eI]at h)) ⟨f9,f10,f11⟩⟩):P:=h
theorem aY3{P:Prop}(h:P:=by rw[hk]at pM;rcases h with h|h|h<;>rw[h]at pM<;>simp[bG]at pM):P:=h
theorem aY4{P:Prop}(h:P:=by simp only[Wd.ay,my]at J ⊢;exact⟨J.same rfl rfl rfl rfl rfl rfl rfl rfl,dW hx rfl,rfl,rfl,by simp only;omega,rfl,Nat.le_refl _⟩):P:=h
theorem aY5{P:Prop}(h:P:=by
 rcases h.2 with⟨h',_⟩|⟨g',cap,cur,h',hb,hg,JU,K8,fa,ht⟩
 ·simp at h'
 ·simp only[Value.slice.injEq,oZ,Addr.mk.injEq,and_true,true_and]at h';obtain⟨rfl,rfl⟩:=h';rw[hg];have:cur.toList=xs:=by rw[←ht,yl (by simp[fa])]
  rw[←this]):P:=h
theorem aY6{P:Prop}(h:P:=by rw[Nat.zero_add];simp[gk,Mem.cU,Mem.eG,ru]):P:=h
theorem aY7{P:Prop}(h:P:=by
 rw[hf _ (by simp) (by simp) (by simp) (by simp)];simp only[aj,zd]
 cases ev[g]?<;>rfl):P:=h
theorem aY8{P:Prop}(h:P:=by
 have s1:(w.alloc (.cells A 100)).heap.size=w.heap.size+1:=by simp
 rw[LI];exact⟨((fp _ _).alloc cG _).alloc (by rw[s1];omega) _,by omega,by rw[tl];exact(gf _ _ _ (by rw[s1];omega)).trans (dP _ _),by rw[vY,←s1];exact dP _ _⟩):P:=h
theorem aY9{P:Prop}(h:P:=by simpa only[mK,hd,Ar,Bool.false_and,Bool.true_and,Bool.and_false,nW,dF,dt]using h):P:=h
theorem aZ0{P:Prop}(h:P:=by simp only[iF,cM,D3,bW,Option.bind_none,Option.bind_fun_none,cI,reduceCtorEq,and_false,exists_false,ite_self]at hn):P:=h
theorem aZ1{P:Prop}(h:P:=by
 refine⟨by simp,fun i os' hi=>?_⟩
 cases i with
 |zero=>
  simp at hi;subst hi;refine⟨q,0,oa,oc,rfl,?_,?_⟩
  ·rw[hq,←hn,cr _ _ _ _ _ _ (dP _ _)];rfl
  ·exact ho.below (C0.alloc _).below cG
 |succ i=>simp at hi):P:=h
theorem aZ2{P:Prop}(h:P:=by
 intro r' hT
 cases r'<;>first|exact aX rfl hT|rfl|(simp only[aj,kI];done)):P:=h
theorem aZ3{P:Prop}(h:P:=by
 split
 ·exact h
 ·rename_i e;obtain⟨h1,h2,h3,h4,h5⟩:=h;have cM:r.places≠[]:=by intro h0;rw[h0]at h4;simp at h4;omega
  have:=UN ⟨h1,h2,h3,h4,h5⟩ cM 1;constructor<;>simp<;>omega):P:=h
theorem aZ4{P:Prop}(h:P:=by
 subst hd;rw[nH (cA hc)]at ho
 cases ho;refine⟨by omega,by simp;omega,fun j y hy=>?_⟩;rcases cX hx hy with⟨rfl,rfl⟩|⟨e,hy⟩
 ·rw[he];simp
 ·rw[(h d _ hc).2.2 j y hy];omega):P:=h
theorem aZ5{P:Prop}(h:P:=by rw[←hx];have:=gz (f:=fun _ _=>[Value.slice none 0 0]) (a:=()) (z:=#[Value.slice none 0 0]) (fun _=>rfl) (by decide) n;rw[rO (fun _=>Value.slice none 0 0)]at this;simpa using this):P:=h
theorem aZ6{P:Prop}(h:P:=by
 intro j v hv;match j,hv with
 |0,hv=>
  simp at hv;subst hv;obtain⟨b,off,spot⟩:=ad;have Ax:spot=none:=(by simpa using World.cell?_spot hu);subst Ax;rw[Addr.add_lit];exact hu):P:=h
theorem aZ7{P:Prop}(h:P:=by show(match l[j]? with|some o=>bT fT 0 o.cases|none=>[])=_;rw[ho]):P:=h
theorem aZ8{P:Prop}(h:P:=by
 have e1:r'≠r:=fun e=>by rw[e,bq]at hT;cases hT
 rw[aD _ _ e1]at hT ⊢;exact H.none_ r' hT):P:=h
theorem aZ9{P:Prop}(h:P:=by clear R aG hx hp hb A0;unfold bR;go_enter func106,ntmps106;go_wp2_with (go_at_call 161;refine HS.out.mono ?_;rintro e w1 ⟨rfl,n,rfl⟩);go_end0;exact⟨rfl,HA.out.aI⟩):P:=h
theorem ba0{P:Prop}(h:P:=by
 unfold ik;simp only[Ht,hT,d2,aH6,dF,bW,eN];by_cases h0:r.room=0
 ·rw[aF h0];exact⟨_,_,rfl,.inl rfl⟩
 ·rw[aE h0];exact⟨_,_,rfl,.inr ⟨_,_,Ring.Kg ok _,rfl⟩⟩):P:=h
theorem ba1{P:Prop}(h:P:=by
 simp only[aj,zd]
 cases hg:p[g]? with
 |none=>rfl
 |some l=>rfl):P:=h
theorem ba2{P:Prop}(h:P:=by go_enter func149,ntmps149;go_wp2;go_ret2;exact⟨rfl,rfl⟩):P:=h
theorem ba3{P:Prop}(h:P:=by
 apply FE (C:=w.au.length) hk;have e1:bC x=x.k.toNat:=by simp[bC,hp]
 rw[e1];have:x.k.toNat=(x.k-1).toNat+1:=by omega
 rw[this];exact(qj (by omega)).2 (.inr hl)):P:=h
theorem ba4{P:Prop}(h:P:=by
 rcases h9 with⟨a,b,c⟩|⟨a,_⟩
 ·exact⟨.inl ⟨a,b⟩,c⟩
 ·exact aX a jA):P:=h
theorem ba5{P:Prop}(h:P:=by unfold bR;go_enter func163,ntmps163;go_wp2_with (first|(go_at_call 162;refine HS.out.mono ?_;rintro e w1 ⟨rfl,rfl⟩)|go_in);go_end0;exact⟨rfl,HA⟩):P:=h
theorem ba6{P:Prop}(h:P:=by
 clear g5;go_wp2
 all_goals first
  |(exfalso;omega)
  |(go_roundw
    case rel=>exact⟨k+1,by go_num,by omega,nx,tK⟩
    case measure=>simp[intOf];omega)):P:=h
theorem ba7{P:Prop}(h:P:=by
 cases d with
 |struct f=>exact run_loadVar_mid w b off ty cs _ hc hu rfl hi
 |array f e=>exact run_loadVar_mid w b off ty cs _ hc hu rfl hi
 |_=>cases hd):P:=h
theorem ba8{P:Prop}(h:P:=by
 rcases b5 with⟨_,_,h,_⟩|⟨h,_⟩
 ·omega
 ·exact h):P:=h
theorem ba9{P:Prop}(h:P:=by go_end0;exact⟨rfl,HA.out.aI⟩):P:=h
theorem bb0{P:Prop}(h:P:=by rw[qK kt]at h;cases h;exact aH3 I J hx _ 9 16 (e4:=hr)):P:=h
theorem bb1{P:Prop}(h:P:=by obtain⟨_,hl⟩:=gl.kg (ty:=none) (p:=(e,size)) (fun q h=>by cases h) h;exact⟨_,0,rfl,fun j u hu=>by rw[Nat.zero_add];exact hl.cell j u hu⟩):P:=h
theorem bb2{P:Prop}(h:P:=by
 unfold iA;rw[na]
 cases ls[n]? with
 |none=>simp
 |some l=>simp only[km,Option.getD_some];have:=(List.erase_sublist (a:=s) (l:=l)).length_le;omega):P:=h
theorem bb3{P:Prop}(h:P:=by
 intro c;unfold aL;rw[e,aF hk,aF hk];have e1:bC x=x.aq.length:=by simp[bC,hp]
 have e2:bC {x with k:=x.k+1}=x.aq.length:=by simp[bC,hp]
 rw[e1,e2]):P:=h
theorem bb4{P:Prop}(h:P:=by
 cases hq:w.aw.push k s with
 |none=>rw[hq]at Nx;cases Nx
 |some q=>
  rw[hq]at Nx;simp only[km,oZ,Wd.mk.injEq,true_and,and_true]at Nx ⊢;exact Nx):P:=h
theorem bb5{P:Prop}(h:P:=by
 rcases Nat.lt_or_ge g S.ax.length with h|h
 ·exact h
 ·unfold bU idx at hr;rw[aF (by omega)]at hr;simp only[oU]at hr;rw[rq h]at hr;simp at hr):P:=h
theorem bb6{P:Prop}(h:P:=by exact pw R g x hx ui o ho dj _ _ hk S' e (by simp[h])):P:=h
theorem bb7{P:Prop}(h:P:=by
 refine h.fU fun a v hv=>?_
 rw[hb.cell (by have:=xo w a hv;omega)];exact hv):P:=h
theorem bb8{P:Prop}(h:P:=by simp at fa;exact⟨_,_,_,fa,[],rfl,by simp,fun j o hj=>by simp at hj⟩):P:=h
theorem bb9{P:Prop}(h:P:=by
 simp only at hq;by_cases U5:q=i
 ·subst U5;rw[nH FM]at hq;cases hq;exact⟨by omega,U4⟩
 ·rw[oA (dE U5)]at hq;exact a3 q v hq hv):P:=h
theorem bc0{P:Prop}(h:P:=by go_enter func150,ntmps150;go_wp2_with (go_at_call 206;refine Ry.out.mono ?_;rintro e w' ⟨rfl,rfl⟩);go_ret;exact⟨rfl,HR⟩):P:=h
theorem bc1{P:Prop}(h:P:=by rw[←hy];have:=gz (f:=fun _ x=>[B x]) (a:=false) (z:=#[B false]) (fun _=>rfl) (by decide) N;rw[rO B]at this;simpa using this):P:=h
theorem bc2{P:Prop}(h:P:=by
 cases hl:C.getLast? with
 |none=>have:=List.getLast?_eq_none_iff.1 hl;rw[this]at AO;simp at AO;omega
 |some y=>exact⟨y,rfl⟩):P:=h
theorem bc3{P:Prop}(h:P:=by exact⟨_,qK hx _,I.ku hx hs m1 ⟨by simp,by simp⟩ m2 m3 rfl⟩):P:=h
theorem bc4{P:Prop}(h:P:=by rw[aD _ _ e1]at h1;rw[aD _ _ e2]at h2;exact H.inj r1 r2 b' h1 h2):P:=h
theorem bc5{P:Prop}(h:P:=by refine List.pairwise_map.2 (s1.BD.imp_of_mem fun {a b} ha hb G3 e=>?_);have:=(s1.lk a ha).1;have:=(s1.lk b hb).1;omega):P:=h
theorem bc6{P:Prop}(h:P:=by exact⟨_,rfl,I.ku hx hs m1 ⟨by simp,by simp⟩ m2 m3 rfl⟩):P:=h
theorem bc7{P:Prop}(h:P:=by go_end0;exact⟨rfl,_,HZ.out.less fun p hp=>nO _ (nO _ hp)⟩):P:=h
theorem bc8{P:Prop}(h:P:=by
 go_wp2;go_roundw
 case rel=>exact⟨_,k+1,m,rfl,by omega,by omega,by go_num,VR⟩
 case measure=>simp[intOf];omega):P:=h
theorem bc9{P:Prop}(h:P:=by exact(gC.tO h).nz (key W hW) (fun b off e=>(lJ h b off e).1)):P:=h
theorem bd0{P:Prop}(h:P:=by
 clear hN HN;go_wp2;go_roundw
 case rel=>exact⟨j+1,by go_num,by omega,KG,HD2⟩
 case measure=>simp[intOf];omega):P:=h
theorem bd1{P:Prop}(h:P:=by
 unfold eH at hf;rw[h1]at g3;simp only[g1,g3,bW,eN]at hf;rw[aF (show x1.ae=27 from g2)]at hf
 cases hf;exact t _):P:=h
theorem bd2{P:Prop}(h:P:=by obtain⟨m1,m2,m3⟩:=M.s5b L (by omega) hp;exact⟨_,wa hx 6,I.ku hx hs m1 ⟨by simp,by simp⟩ m2 m3 rfl⟩):P:=h
theorem bd3{P:Prop}(h:P:=by
 try dsimp only
 first|with_reducible exact hS|with_reducible exact HSX.out _ (hB9.setCell HLE.out _)|go_keep):P:=h
theorem bd4{P:Prop}(h:P:=by
 rcases Nat.lt_or_ge b w.heap.size with h1|h1
 ·exact h1
 ·simp[World.cell?,Array.getElem?_eq_none h1]at h):P:=h
theorem bd5{P:Prop}(h:P:=by
 rcases h8 with h|⟨_,h,_⟩
 ·exact h.1
 ·exact aX h lR):P:=h
theorem bd6{P:Prop}(h:P:=by go_wp2;go_ret;exact⟨by simp[h1],rfl⟩):P:=h
theorem bd7{P:Prop}(h:P:=by exact⟨_,rfl,I.XK hx hs m1 ⟨by simp[hp],by simp[hp]⟩ m2 IF (fun d=>(m3 d).trans rel) rfl h1⟩):P:=h
theorem bd8{P:Prop}(h:P:=by exact pw R g x hx ui o ho dj _ _ rfl S' e (by simp[h])):P:=h
theorem bd9{P:Prop}(h:P:=by simp[Lit.wf,IntKind.min,IntKind.max,IntKind.signed,IntKind.bits]at h;exact⟨by omega,by omega⟩):P:=h
theorem be0{P:Prop}(h:P:=by
 go_wp2;go_roundw
 case rel=>exact⟨j+1,by go_num,by omega,HB9⟩
 case measure=>simp[intOf];omega):P:=h
theorem be1{P:Prop}(h:P:=by rw[gp,h,HX0.out];exact SY _ (by rw[yk,fv (by rw[←HM.out];exact h0)];exact List.getElem_mem _)):P:=h
theorem be2{P:Prop}(h:P:=by rw[cY];show(((({w with aw:=q'}:Wd).cJ s {sd with done:=false}).ay z _).ay z _).ay g _=_;rw[cY]):P:=h
theorem be3{P:Prop}(h:P:=by intro g x s h e;obtain⟨l,h1,h2⟩:=hg g x h;obtain⟨a1,a2,a3,a4,a5,a6,a7,a8⟩:=hw h2;omega):P:=h
theorem be4{P:Prop}(h:P:=by have h:=(X.alloc o1).alloc o2;rw[show(w.alloc o1).heap.size=w.heap.size+1 by simp]at h;exact h):P:=h
theorem be5{P:Prop}(h:P:=by exact aX (H.own.inj _ _ _ H.box e.symm) (by decide)):P:=h
theorem be6{P:Prop}(h:P:=by
 rcases hk with hk|hk
 ·rw[hk]at pM;rcases h with h|h<;>rw[h]at pM<;>simp[bG]at pM
 ·exact hk):P:=h
theorem be7{P:Prop}(h:P:=by exact⟨_,rfl,I.XK hx hs m1 ⟨by simp,by simp⟩ m2 IF (fun d=>(m3 d).trans rel) rfl h1⟩):P:=h
theorem be8{P:Prop}(h:P:=by
 have:q.bM[k]?=none:=by rw[List.getElem?_eq_none_iff]at h ⊢;rw[Q.len];exact h
 simp[this]):P:=h
theorem be9{P:Prop}(h:P:=by
 rcases Nat.eq_zero_or_pos n with h|h
 ·exact h
 ·have:=Nat.mul_pos h h0;simp at hn;omega):P:=h
theorem bf0{P:Prop}(h:P:=by obtain⟨j,a,b⟩:=sF l (i+1) g h;exact⟨j+1,by rw[a];congr 1;omega,by simpa using b⟩):P:=h
theorem bf1{P:Prop}(h:P:=by
 go_roundw
 case rel=>exact⟨j+1,by go_num,by omega,G6⟩
 case measure=>simp[intOf];omega):P:=h
theorem bf2{P:Prop}(h:P:=by
 intro r' hT
 cases r'<;>first|exact aX rfl hT|rfl):P:=h
theorem bf3{P:Prop}(h:P:=by refine⟨?_,(X.loc p (nO _ h)).2⟩;rw[fQ _ _ _ _ (hL p h)];exact(X.loc p (nO _ h)).1):P:=h
theorem bf4{P:Prop}(h:P:=by clear h gq mz;go_enter func215,ntmps215;go_wp2;go_ret;exact⟨by rw[H.out];rfl,rfl⟩):P:=h
theorem bf5{P:Prop}(h:P:=by clear R hx h0;unfold bR;go_enter func159,ntmps159;go_wp2;go_end0;exact⟨rfl,A.out⟩):P:=h
theorem bf6{P:Prop}(h:P:=by intro y hy;obtain⟨z,hz,rfl⟩:=List.mem_map.1 hy;have:=s1.lk z hz;have:=I.c8;omega):P:=h
theorem bf7{P:Prop}(h:P:=by
 unfold kq at m2;simp only[bW,cI]at m2;obtain⟨c,hc,r',hr,e⟩:=m2
 cases e;exact hr):P:=h
theorem bf8{P:Prop}(h:P:=by
 rcases Nat.lt_or_ge i S.au.length with h|h
 ·rw[Ev h]
 ·rw[rq (by simp;omega),rq h]):P:=h
theorem bf9{P:Prop}(h:P:=by
 by_cases e:g=i
 ·subst e;rw[aF rfl];exact getElem?_set_self' h
 ·rw[aE e,oA (dE e)]):P:=h
theorem bg0{P:Prop}(h:P:=by
 refine⟨?_,?_,HL.out.below⟩
 ·rw[e];exact HL.out.val
 ·rw[e];exact HL.out.len):P:=h
theorem bg1{P:Prop}(h:P:=by exact r9 (w.dZ (c.ch-1).toNat r.get.1) rfl rfl rfl (aP2 _) rfl rfl rfl rfl _ _ h):P:=h
theorem bg2{P:Prop}(h:P:=by rw[fv hj]at hv;rw[Addr.add_lit,hc j hj];simp at hv;rw[←hv];simp[List.getD,hj]):P:=h
theorem bg3{P:Prop}(h:P:=by rw[Mem.bN _ _ _ e1]at h1;rw[Mem.bN _ _ _ e2]at h2;exact A.bj.inj r1 r2 b' h1 h2):P:=h
theorem bg4{P:Prop}(h:P:=by obtain⟨w1,h1,rfl⟩:=aH5.1 h;exact L0.2.2.2.2.2.2.2.2.2.2.2.2.2.2.2.2.1 h1 hs):P:=h
theorem bg5{P:Prop}(h:P:=by
 go_roundw
 case rel=>exact⟨1,rfl,by omega,trivial⟩
 case measure=>simp[intOf]):P:=h
theorem bg6{P:Prop}(h:P:=by refine bodyPost_ret (results_none rfl _ _ _) rfl ?_;exact⟨rfl,oh.out.at_⟩):P:=h
theorem bg7{P:Prop}(h:P:=by rw[cY]at h;cases h;exact aI0 I J hx hp ks {bu x with call:=w.av,ae:=4} 4):P:=h
theorem bg8{P:Prop}(h:P:=by
 go_wp2
 all_goals
  go_ret;refine⟨?_,rfl⟩;unfold nK;simp_all;try omega):P:=h
theorem bg9{P:Prop}(h:P:=by simp only[Value.slice.injEq,oZ,Addr.mk.injEq]at h1;rw[h1.1.1];exact h2):P:=h
theorem bh0{P:Prop}(h:P:=by obtain⟨l,h1,h2⟩:=hg g x h;rw[(hw h2).2.2.2.2.2.2.1]at e;simp at e):P:=h
theorem bh2{P:Prop}(h:P:=by go_end0;exact⟨rfl,Hb.out.at_.eq aA⟩):P:=h
theorem bh3{P:Prop}(h:P:=by go_end0;exact⟨rfl,FO.out.at_.eq aA⟩):P:=h
theorem bh4{P:Prop}(h:P:=by go_end0;exact⟨rfl,_,HW.out.less fun p hp=>nO _ (nO _ (nO _ hp))⟩):P:=h
theorem bh5{P:Prop}(h:P:=by
 obtain⟨l1,l2,l3,l4,l5,l6,l7,l8,l9,kN,kO,kP,kQ,kR,mT,mU,kS,mV,kT,kY,mW,kU,kV,kW⟩:=L;clear l8 fX;refine⟨?_,dJ⟩
 ·clear dJ s1 s3 s2;exact ax8):P:=h
theorem bh6{P:Prop}(h:P:=by clear l1 l2 l3 l4 l5 l6 l7 l9 kN kO kP kQ kR kS kT kY kU kV kW nL dJ s1 s3;exact aA4):P:=h
theorem bh7{P:Prop}(h:P:=by clear dJ s1 s3 s2;exact ax8):P:=h
theorem bh8{P:Prop}(h:P:=by
 go_wp2_with fail
 refine(pI _ HR.out.bj).mono ?_;rintro e w' ⟨rfl,rfl⟩;exact aX3):P:=h
theorem bh9{P:Prop}(h:P:=by refine iZ (f:=gk m) (k:=25) (fun _ _=>rfl) S.gs 0 j 23 x _ _ hx (by omega) (fun n z hn=>nj m (.inr (.inr (.inr rfl))) _ _ _ (by omega)) ?_;exact aY6):P:=h
theorem bi0{P:Prop}(h:P:=by refine iZ (f:=gk m) (k:=25) (fun _ _=>rfl) S.gs 0 j 22 x _ _ hx (by omega) (fun n z hn=>nj m (.inr (.inr (.inl rfl))) _ _ _ (by omega)) ?_;exact aY6):P:=h
theorem bi1{P:Prop}(h:P:=by clear R aG hx hp hb A0;unfold bR;go_enter func106,ntmps106;go_wp2_with (go_at_call 161;refine HS.out.mono ?_;rintro e w1 ⟨rfl,n,rfl⟩);exact aX7):P:=h
theorem bi2{P:Prop}(h:P:=by refine iZ (f:=gk m) (k:=25) (fun _ _=>rfl) S.gs 0 j 21 x _ _ hx (by omega) (fun n z hn=>nj m (.inr (.inl rfl)) _ _ _ (by omega)) ?_;exact aY6):P:=h
theorem bi3{P:Prop}(h:P:=by refine hK _ _ ?_;clear hK K;refine wpAny_ready (rs:=[6]) (by kernel_rfl) (by simp) (AllReady.cons rfl (fun K hK=>?_) AllReady.nil);exact aw1):P:=h
theorem bi4{P:Prop}(h:P:=by refine iZ (f:=gk m) (k:=25) (fun _ _=>rfl) S.gs 0 j 20 x _ _ hx (by omega) (fun n z hn=>nj m (.inl rfl) _ _ _ (by omega)) ?_;exact aY6):P:=h
theorem bi5{P:Prop}(h:P:=by
 rcases h1 with h1|⟨h0,h1⟩
 ·exact aW5
 ·have hd:decide (g<(S.ax.length:Int))=false:=by simpa using h1
  exact aW5):P:=h
theorem bi6{P:Prop}(h:P:=by
 rcases hk with hk|hk
 ·exact hk
 ·exact aY3):P:=h
theorem bi7{P:Prop}(h:P:=by
 rcases h1 with h1|h1
 ·exact aX3
 ·by_cases h2:l<0
  ·exact aX3
  ·exact aX3):P:=h
theorem oX{P:Prop}(h:P:=by omega):P:=h
theorem sX{P:Prop}(h:P:=by simp):P:=h
theorem kX{P:Prop}(h:P:=by kernel_rfl):P:=h
theorem uX{P:Prop}(h:P:=by assumption):P:=h
theorem dX{P:Prop}(h:P:=by decide):P:=h
theorem bi8{P:Prop}(h:P:=by simp;omega):P:=h
theorem bi9{P:Prop}(h:P:=by simp[Value.oneCell']):P:=h
theorem bj0{P:Prop}(h:P:=by simp[Act.eval,Act.put]):P:=h
theorem bj1{P:Prop}(h:P:=by rw[hk];rfl):P:=h
theorem bj2{P:Prop}(h:P:=by simp only;omega):P:=h
theorem bj3{P:Prop}(h:P:=by simpa using h):P:=h
theorem bj4{P:Prop}(h:P:=by unfold maxLen;omega):P:=h
theorem bj5{P:Prop}(h:P:=by simp at h):P:=h
theorem bj6{P:Prop}(h:P:=by simp only at h;omega):P:=h
theorem bj7{P:Prop}(h:P:=by intro k hk;cases hk):P:=h
theorem bj8{P:Prop}(h:P:=by intro q hq;simp[eI]at hq;exact hq.symm):P:=h
theorem bj9{P:Prop}(h:P:=by unfold bm at h;omega):P:=h
theorem bk0{P:Prop}(h:P:=by cases h):P:=h
theorem bk1{P:Prop}(h:P:=by simp only[loP];omega):P:=h
theorem bk2{P:Prop}(h:P:=by unfold aT at h;omega):P:=h
theorem bk3{P:Prop}(h:P:=by simp[bC,hp]):P:=h
theorem bk4{P:Prop}(h:P:=by unfold aT at h;simp only at h;omega):P:=h
theorem bk5{P:Prop}(h:P:=by rw[cr _ _ _ _ _ _ hx];rfl):P:=h
theorem bk6{P:Prop}(h:P:=by rw[gG];omega):P:=h
theorem bk7{P:Prop}(h:P:=by unfold dU;rw[jA,eR];exact hi):P:=h
theorem bk8{P:Prop}(h:P:=by rw[←Hn.out];exact dD):P:=h
theorem bk9{P:Prop}(h:P:=by unfold bm at h;simp at h):P:=h
theorem bl0{P:Prop}(h:P:=by rw[s1];omega):P:=h
theorem bl1{P:Prop}(h:P:=by unfold aw0 aW;omega):P:=h
theorem bl2{P:Prop}(h:P:=by go_num):P:=h
theorem bl3{P:Prop}(h:P:=by unfold kJ;simp;omega):P:=h
theorem bl4{P:Prop}(h:P:=by show(aP x).ai≠9;omega):P:=h
theorem bl5{P:Prop}(h:P:=by rw[hA.1];omega):P:=h
theorem bl6{P:Prop}(h:P:=by unfold pW;decide):P:=h
theorem bl7{P:Prop}(h:P:=by unfold aT at h;simp at h):P:=h
theorem bl8{P:Prop}(h:P:=by rw[s2];omega):P:=h
theorem bl9{P:Prop}(h:P:=by show(w.gs.set z _)[g]?=_;rw[gd _ (dE d4)];exact hx):P:=h
theorem bm0{P:Prop}(h:P:=by simp[bf.fJ,bf.fe]):P:=h
theorem bm1{P:Prop}(h:P:=by show(w.gs.set z _)[g]?=_;rw[gd _ (dE mh)];exact hx):P:=h
theorem bm2{P:Prop}(h:P:=by simp[Region.wanted,nX]):P:=h
theorem bm3{P:Prop}(h:P:=by simp only[hp]at h;omega):P:=h
theorem bm4{P:Prop}(h:P:=by rw[HP.out];decide):P:=h
theorem bm5{P:Prop}(h:P:=by rw[cr _ _ _ _ _ _ hx8];rfl):P:=h
theorem bm6{P:Prop}(h:P:=by rintro rfl;rw[hx]at b4;cases b4;exact rl sd b6):P:=h
theorem bm7{P:Prop}(h:P:=by simp[aj,hx]):P:=h
theorem bm8{P:Prop}(h:P:=by rw[show((((aP x).ch-1).toNat:Int)+1)=(aP x).ch by omega];exact hh):P:=h
theorem bm9{P:Prop}(h:P:=by rw[cr _ _ _ _ _ _ xy];rfl):P:=h
theorem bn0{P:Prop}(h:P:=by rw[←HN.out];exact dD):P:=h
theorem bn1{P:Prop}(h:P:=by rw[jk];exact(fp _ _).alloc cG _):P:=h
theorem bn2{P:Prop}(h:P:=by rw[←HM.out];exact rT):P:=h
theorem bn3{P:Prop}(h:P:=by simpa using hk):P:=h
theorem bn4{P:Prop}(h:P:=by rw[cr _ _ _ _ _ _ tl];rfl):P:=h
theorem bn5{P:Prop}(h:P:=by simp[aj]):P:=h
theorem bn6{P:Prop}(h:P:=by simp[eO]at hp;simp;omega):P:=h
theorem bn7{P:Prop}(h:P:=by rw[hx]at hy;cases hy;exact oo):P:=h
theorem bn8{P:Prop}(h:P:=by rfl):P:=h
theorem bn9{P:Prop}(h:P:=by simp only[aj,hx]):P:=h
theorem bo0{P:Prop}(h:P:=by simp[jQ]at h):P:=h
theorem bo1{P:Prop}(h:P:=by unfold aT;simp):P:=h
theorem bo2{P:Prop}(h:P:=by simp[bf.fe,bf.fJ,my]):P:=h
theorem bo3{P:Prop}(h:P:=by intro u hu;simp at hu;subst hu;rfl):P:=h
theorem bo4{P:Prop}(h:P:=by simp only[loP,Wd.ay,Mach.free];omega):P:=h
theorem bo5{P:Prop}(h:P:=by rw[←HM.out];exact dD):P:=h
theorem bo6{P:Prop}(h:P:=by rw[←s1];exact dP _ _):P:=h
theorem bo7{P:Prop}(h:P:=by rw[aG.aC];exact eM):P:=h
theorem bo8{P:Prop}(h:P:=by rw[KX.out];exact fE):P:=h
theorem bo9{P:Prop}(h:P:=by have:=I.sj hx;omega):P:=h
theorem bp0{P:Prop}(h:P:=by rw[e];simp):P:=h
theorem bp1{P:Prop}(h:P:=by simp[World.setCell]):P:=h
theorem bp2{P:Prop}(h:P:=by simp[eI]at h):P:=h
theorem bp3{P:Prop}(h:P:=by rw[Mem.bN _ _ _ cM];exact hp):P:=h
theorem bp4{P:Prop}(h:P:=by rw[hl];simp only[ne_eq,oZ];exact and_congr Iff.rfl (not_congr ⟨fun h=>h.symm,fun h=>h.symm⟩)):P:=h
theorem bp5{P:Prop}(h:P:=by simpa using h2):P:=h
theorem bp6{P:Prop}(h:P:=by simp[Wd.ay]):P:=h
theorem bp7{P:Prop}(h:P:=by subst hy;exact Iff.rfl):P:=h
theorem bp8{P:Prop}(h:P:=by subst hy;rfl):P:=h
theorem bp9{P:Prop}(h:P:=by rw[show i+1+g=i+(g+1)by omega];exact hf):P:=h
theorem bq0{P:Prop}(h:P:=by simp[aj];intro e;rw[e]at hj;simp at hj):P:=h
theorem bq1{P:Prop}(h:P:=by rw[cr _ _ _ _ _ _ hc];rfl):P:=h
theorem bq2{P:Prop}(h:P:=by rw[cr _ _ _ _ _ _ HX];rfl):P:=h
theorem bq3{P:Prop}(h:P:=by rw[ON];exact eQ s):P:=h
theorem bq4{P:Prop}(h:P:=by cases h;rfl):P:=h
theorem bq5{P:Prop}(h:P:=by simp[aj,h]):P:=h
theorem bq6{P:Prop}(h:P:=by unfold aw0;omega):P:=h
theorem bq7{P:Prop}(h:P:=by unfold jT;simp only[hx,bW,eN,ho,aE (by omega:¬(x.ops.length:Int)≤x.at_),hk];simp):P:=h
theorem bq8{P:Prop}(h:P:=by show((w.gs.set z _).set z _)[g]?=_;rw[gd _ (dE mh),gd _ (dE mh)];exact hx):P:=h
theorem bq9{P:Prop}(h:P:=by have:=(pN Gl G4).1;have:=Bm.out.2;omega):P:=h
theorem br0{P:Prop}(h:P:=by simp only[loP,Wd.ay];omega):P:=h
theorem br1{P:Prop}(h:P:=by intro q hq;simp[eI]at hq):P:=h
theorem br2{P:Prop}(h:P:=by rw[Ci];exact X.GC _):P:=h
theorem br3{P:Prop}(h:P:=by rw[fE];simp[qh,xW.out]):P:=h
theorem br4{P:Prop}(h:P:=by unfold fS.take;simp only[HC.out,fS.filled,dt,←V8.out,r9,hy];rw[hj,oU]):P:=h
theorem br5{P:Prop}(h:P:=by simp only[h];rfl):P:=h
theorem br6{P:Prop}(h:P:=by rw[e4];exact List.Sublist.refl _):P:=h
theorem br7{P:Prop}(h:P:=by rw[h];simp):P:=h
theorem br8{P:Prop}(h:P:=by unfold mI at hr;simp at hr;omega):P:=h
theorem br9{P:Prop}(h:P:=by simpa using h1):P:=h
theorem bs0{P:Prop}(h:P:=by simp only[kI];rw[e];exact sl):P:=h
theorem bs1{P:Prop}(h:P:=by rw[tY];exact(fp _ _).alloc cG _):P:=h
theorem bs2{P:Prop}(h:P:=by rw[eg];exact hk):P:=h
theorem bs3{P:Prop}(h:P:=by show((w.gs.set z _).set g _)[z]?=_;rw[gd _ mh];exact di _ b4):P:=h
theorem bs4{P:Prop}(h:P:=by rw[Sq.out.1];omega):P:=h
theorem bs5{P:Prop}(h:P:=by have:=vD.out;omega):P:=h
theorem bs6{P:Prop}(h:P:=by have:=Ve.out;omega):P:=h
theorem bs7{P:Prop}(h:P:=by simpa[World.setCell]using H.tL):P:=h
theorem bs8{P:Prop}(h:P:=by simpa using hj):P:=h
theorem bs9{P:Prop}(h:P:=by show(W.gs.set z _)[g]?=_;rw[gd _ (dE d4),zd.1];exact hx):P:=h
theorem bt0{P:Prop}(h:P:=by rw[show(((c.ch-1).toNat:Int)+1)=c.ch by omega];exact hh):P:=h
theorem bt1{P:Prop}(h:P:=by rw[cr _ _ _ _ _ _ wH.out];rfl):P:=h
theorem bt2{P:Prop}(h:P:=by simpa[eO]using hc):P:=h
theorem bt3{P:Prop}(h:P:=by show(W.gs.set z _)[g]?=_;rw[gd _ (dE d4),f1];exact hx):P:=h
theorem bt4{P:Prop}(h:P:=by rw[hk,Nat.succ_mul];omega):P:=h
theorem bt5{P:Prop}(h:P:=by rw[cr _ _ _ _ _ _ hz];rfl):P:=h
theorem bt6{P:Prop}(h:P:=by rw[aD _ _ cM];exact X.wk_):P:=h
theorem bt7{P:Prop}(h:P:=by rw[e]):P:=h
theorem bt8{P:Prop}(h:P:=by simp[List.getD,hj]):P:=h
theorem bt9{P:Prop}(h:P:=by simp[hsize]):P:=h
theorem bu0{P:Prop}(h:P:=by simp[aj,jc.out]):P:=h
theorem bu1{P:Prop}(h:P:=by unfold maxLen at hm;omega):P:=h
theorem bu2{P:Prop}(h:P:=by unfold aW;omega):P:=h
theorem bu3{P:Prop}(h:P:=by show(w.gs.set g _)[z]?=_;rw[gd _ mh];exact h7):P:=h
theorem bu4{P:Prop}(h:P:=by rw[tB]at fX;exact fX.2.2 y hy y (by simp[uO]) rfl):P:=h
theorem bu5{P:Prop}(h:P:=by rw[hn];exact h1.1):P:=h
theorem bu6{P:Prop}(h:P:=by rw[hd];simp[World.drew,World.drewN,Nat.add_assoc]):P:=h
theorem bu7{P:Prop}(h:P:=by rw[cr _ _ _ _ _ _ hy];rfl):P:=h
theorem bu8{P:Prop}(h:P:=by rw[a1];exact eQ s):P:=h
theorem bu9{P:Prop}(h:P:=by rw[Nat.zero_add,cr _ _ _ _ _ _ HX.out.1];exact hq):P:=h
theorem bv0{P:Prop}(h:P:=by
 have HM:=ag hm;obtain⟨HX,HO,jc⟩:=ij hx ho hx;clear R hx ho hk hm;unfold bR;go_enter func90,ntmps90;go_wp2_with (go_at_call 92;refine(dw HR g HX HO dj).mono ?_;rintro e w1 ⟨⟨cv,rfl,gE⟩,A1⟩;obtain⟨ca,cc,rfl⟩:=dm.shape gE;have iv:=ag ((AB.qn A1).alloc (eD o ca cc));clear A1 gE);go_wp2_with (go_at_call 143;refine(Gd iv.out.aI bO ca o.cases.length cc HM).mono ?_;rintro e wN ⟨rfl,X⟩;have RN:=X.bj;have e2:=RN.dM;have l1:=RN.lt RN.aB.gs;have l2:=RN.lt RN.aB.al;have n1:=RN.ne RN.aB.al RN.aB.gs;have n2:=n1.symm;have p2:=RN.g jc 2 _ rfl;have wW:=RN.frozen RN.aB.gs (g*25+2);have ZM:=RN.g jc 12 _ rfl;have Pb:=RN.frozen RN.aB.gs (g*25+12);have Ip:=RN.g jc 15 _ rfl;have Dm:=RN.frozen RN.aB.gs (g*25+15);have UZ:=RN.g jc 16 _ rfl;have Fz:=RN.frozen RN.aB.gs (g*25+16);have U0:=RN.g jc 17 _ rfl;have FA:=RN.frozen RN.aB.gs (g*25+17);have FB:=RN.g jc 18 _ rfl;have FC:=RN.frozen RN.aB.gs (g*25+18);have p19:=RN.g jc 19 _ rfl;have FD:=RN.frozen RN.aB.gs (g*25+19);have Y1:=X.res jc {aJ:=1,case:= -1,ok:=true,n:=n};have Y2:=Y1.g (az jc) {x with res:={aJ:=1,case:= -1,ok:=true,n:=n},point:=S.av} (q:=12) (v:=I S.av);have Y3:=Y2.g (az (az jc)) {x with res:={aJ:=1,case:= -1,ok:=true,n:=n},point:=S.av,ae:=18} (q:=2) (v:=I 18);rw[aA,aA]at Y3;have HZ:=ag Y3;clear X Y1 Y2 Y3 RN);go_end0;refine⟨rfl,m,?_⟩;try simp only[Nat.add_assoc,Nat.reduceAdd]
 exact HZ.out.at_):P:=h
theorem bv1{P:Prop}(h:P:=by
 obtain⟨l1,l2,l3,l4,l5,l6,l7,l8,l9,kN,kO,kP,kQ,kR,mT,mU,kS,mV,kT,kY,mW,kU,kV,kW⟩:=L;clear l8 fX;refine⟨?_,?_,dJ⟩
 ·exact bh6
 ·exact bh7):P:=h
theorem bv2{P:Prop}(h:P:=by simp only[eN];rw[qK (x:={x with wakes:=x.wakes++[(z:Int)],br:= -1}) (di (x:=x) _ bs9)];refine⟨_,iA ls s,rfl,?_⟩;rw[cY];exact F):P:=h
theorem bv3{P:Prop}(h:P:=by go_wp2;go_ret;exact⟨rfl,HA.out.drewN _⟩):P:=h
theorem bv4{P:Prop}(h:P:=by rw[jX _ oX];omega):P:=h
theorem bv5{P:Prop}(h:P:=by have h0:=(s1.ord v (lf hq)).1;refine⟨h0,fun e=>Ky ?_⟩;have e2:v=(i:Int):=oX;rw[e2]at hq;exact(List.getElem?_inj (cA hq) Dx).1 (hq.trans hi.symm)):P:=h
theorem bv6{P:Prop}(h:P:=by unfold aL cH;rw[aE oX];exact⟨oX,rfl⟩):P:=h
theorem bv7{P:Prop}(h:P:=by unfold idx;rw[aF oX,oU];exact hv):P:=h
theorem bv8{P:Prop}(h:P:=by intro c;unfold aL;rw[e,aF hk,aF hk];have e1:bC x=x.aq.length:=bk3;have e2:bC y=x.aq.length:=(by subst hy;simp[bC,hp]);have pJ:y.aq=x.aq:=bp8;rw[e1,e2,pJ]):P:=h
theorem bv9{P:Prop}(h:P:=by have:=s3.len oX;have:=cA h4;omega):P:=h
theorem bw0{P:Prop}(h:P:=by rw[hown.cellAt q oX,na];rw[←AO,hq,show q+1-1=q by omega]at rN;rw[rN,hj];rfl):P:=h
theorem bw1{P:Prop}(h:P:=by rw[ur dX];rw[ur dX];rw[ur dX];rw[ur dX];exact HA.out.2.2.2.2):P:=h
theorem bw2{P:Prop}(h:P:=by rw[ur dX];exact HA.out.2.1):P:=h
theorem bw3{P:Prop}(h:P:=by rw[cr _ _ _ _ _ _ ((hb.block _ sX).trans wH.out)];rfl):P:=h
theorem bw4{P:Prop}(h:P:=by rw[((aJ6 bl4).1 h).2];exact fun h'=>hc ((aT8 I hm).2 h')):P:=h
theorem bw5{P:Prop}(h:P:=by rw[ur dX];rw[ur dX];rw[ur dX];exact HA.out.2.2.2.1):P:=h
theorem bw6{P:Prop}(h:P:=by rw[aD _ _ sX];exact h1):P:=h
theorem bw7{P:Prop}(h:P:=by rw[aD _ _ dX];exact H.box):P:=h
theorem ag{P:Prop}(h:P):Go.RowKit.Hid P:=h
theorem dA{P0 P1:Prop}(h0:P0)(h1:P1):Go.RowKit.Hid P0∧Go.RowKit.Hid P1:=⟨h0,h1⟩
theorem ij{P0 P1 P2:Prop}(h0:P0)(h1:P1)(h2:P2):Go.RowKit.Hid P0∧Go.RowKit.Hid P1∧Go.RowKit.Hid P2:=⟨h0,h1,h2⟩
theorem ia{P0 P1 P2 P3:Prop}(h0:P0)(h1:P1)(h2:P2)(h3:P3):Go.RowKit.Hid P0∧Go.RowKit.Hid P1∧Go.RowKit.Hid P2∧Go.RowKit.Hid P3:=⟨h0,h1,h2,h3⟩
theorem jW{P0 P1 P2 P3 P4:Prop}(h0:P0)(h1:P1)(h2:P2)(h3:P3)(h4:P4):Go.RowKit.Hid P0∧Go.RowKit.Hid P1∧Go.RowKit.Hid P2∧Go.RowKit.Hid P3∧Go.RowKit.Hid P4:=⟨h0,h1,h2,h3,h4⟩
theorem mr{P0 P1 P2 P3 P4 P5:Prop}(h0:P0)(h1:P1)(h2:P2)(h3:P3)(h4:P4)(h5:P5):Go.RowKit.Hid P0∧Go.RowKit.Hid P1∧Go.RowKit.Hid P2∧Go.RowKit.Hid P3∧Go.RowKit.Hid P4∧Go.RowKit.Hid P5:=⟨h0,h1,h2,h3,h4,h5⟩
abbrev dO:=@And.intro
abbrev fp:=@Go.RowKit.Below.refl
abbrev ur:=@Array.getElem?_setIfInBounds_ne
abbrev oA:=@List.getElem?_set_ne
abbrev nW:=@Bool.false_eq_true
abbrev oZ:=@Option.some.injEq
abbrev oU:=@Int.toNat_natCast
abbrev rn:=@List.mem_cons_self
abbrev xL:=@Array.getElem?_eq_getElem
abbrev yk:=@List.getD_eq_getElem?_getD
abbrev kZ:=@Go.World.cell?_of_block
abbrev nH:=@List.getElem?_set_self
abbrev kI:=@List.length_set
abbrev aH6:=@Bool.true_eq_false
abbrev na:=@List.getElem?_map
abbrev jX:=@Go.IntWalk.i64_in
abbrev km:=@Option.map_some
abbrev ko:=@List.length_map
abbrev dE:=@Ne.symm
abbrev jm:=@Nat.le_trans
abbrev rq:=@List.getElem?_eq_none
abbrev py:=@List.length_append
abbrev mx:=@Option.some.inj
abbrev xn:=@List.eq_nil_of_length_eq_zero
abbrev sS:=@List.take_succ_cons
abbrev sU:=@List.drop_succ_cons
abbrev uA:=@List.getElem?_replicate
abbrev my:=@List.set_set
abbrev qs:=@Bool.and_eq_true
abbrev sV:=@List.length_cons
abbrev xo:=@Go.World.block_lt_of_cell?
abbrev vE:=@List.length_replicate
abbrev sW:=@List.getElem?_set
abbrev uB:=@Nat.lt_of_lt_of_le
abbrev rC:=@List.drop_zero
abbrev xp:=@Go.World.frozen?_of_block
abbrev iL:=@List.mem_cons
abbrev aW1:=@List.take_zero
abbrev tB:=@List.nodup_append
abbrev tC:=@List.length_take
abbrev sY:=@List.cons_append
abbrev yl:=@List.take_of_length_le
abbrev ym:=@List.eq_nil_or_concat
abbrev yn:=@List.concat_eq_append
abbrev Ev:=@List.getElem?_append_left
abbrev Ew:=@List.getElem?_append_right
abbrev aE:=@if_neg
abbrev aF:=@if_pos
abbrev aX:=@absurd
abbrev dF:=@if_false
abbrev dt:=@if_true
abbrev cr:=@cell_of_row
abbrev dP:=@heap_alloc_new
abbrev iM:=@frozen_of_row
abbrev gf:=@Go.RowKit.Below.heap_alloc
abbrev fQ:=@Go.RowKit.Below.heap_setCell
abbrev pz:=@Int.eq_ofNat_of_zero_le
theorem dC{α:Sort _}(a:α):∃x,x=a:=⟨a,rfl⟩
section
universe u v
variable{α:Type u}{β:Type v}
section
variable{l:List α}{i:Nat}{a:α}(h:l[i]?=some a)
include h
theorem cA:i<l.length:=(List.getElem?_eq_some_iff.1 h).1
theorem uC:∃h:i<l.length,l[i]=a:=List.getElem?_eq_some_iff.1 h
end
theorem dh{l:Array α}{i:Nat}{a:α}(h:l[i]?=some a):∃h:i<l.size,l[i]=a:=Array.getElem?_eq_some_iff.1 h
theorem fv{l:List α}{i:Nat}(h:i<l.length):l[i]?=some l[i]:=List.getElem?_eq_getElem h
theorem bW{α β:Type u}{a:Option α}{f:α→Option β}:bind a f=a.bind f:=rfl
theorem cI{b:β}{x:Option α}{f:α→Option β}:x.bind f=some b↔∃a,x=some a∧f a=some b:=Option.bind_eq_some_iff
theorem aH5{b:β}{x:Option α}{f:α→β}:x.map f=some b↔∃a,x=some a∧f a=b:=Option.map_eq_some_iff
theorem eN(a:α)(f:α→Option β):(some a).bind f=f a:=rfl
theorem cG{n:Nat}:n≤n:=Nat.le_refl n
theorem pd{l:List α}(h:l≠[]):0<l.length:=List.length_pos_iff.2 h
theorem nO(y:α){a:α}{l:List α}(h:a∈l):a∈y::l:=List.mem_cons_of_mem y h
theorem lf{l:List α}{i:Nat}{a:α}(h:l[i]?=some a):a∈l:=List.mem_of_getElem? h
end
namespace Mach
def idx{α:Type}(l:List α)(i:Int):Option α:=if 0≤i then l[i.toNat]? else none
def put{α:Type}(l:List α)(i:Int)(x:α):Option (List α):=if 0≤i∧i.toNat<l.length then some (l.set i.toNat x)else none
structure Case where
 cF:Bool
 ch:Int
 v:Int
 deriving DecidableEq,Repr
structure cu where
 ai:Int:=0
 ch:Int:=0
 n:Int:=0
 v:Int:=0
 cases:List Case:=[]
 dG:Bool:=false
 deriving DecidableEq,Repr
structure nP where
 aJ:Int:=0
 case:Int:=0
 v:Int:=0
 ok:Bool:=false
 n:Int:=0
 deriving DecidableEq,Repr
structure gn where
 cK:Bool:=false
 g:Int:=0
 ch:Int:=0
 case:Int:=0
 cF:Bool:=false
 v:Int:=0
 done:Bool:=false
 deriving DecidableEq,Repr
structure bI where
 ops:List cu:=[]
 at_:Int:=0
 ae:Int:=0
 bU:Int:=0
 token:Bool:=false
 call:Int:=0
 bk:Bool:=false
 aN:Int:=0
 bY:Int:=0
 br:Int:=0
 t:Int:=0
 bJ:Int:=0
 point:Int:=0
 bF:Int:=0
 fire:Int:=0
 res:nP:={}
 aH:List Int:=[]
 aq:List Int:=[]
 bA:List Int:=[]
 wakes:List Int:=[]
 k:Int:=0
 deriving DecidableEq,Repr
structure Ex where
 g:Int
 op:Int
 call:Int
 bJ:Int
 point:Int
 bF:Int
 fire:Int
 re:Int
 res:nP
 deriving DecidableEq,Repr
structure Ring where
 places:List Int
 first:Int:=0
 count:Int:=0
 deriving DecidableEq,Repr
structure nf where
 pX:Int:= -1
 behind:Int:= -1
 ahead:Int:= -1
 deriving DecidableEq,Repr
structure Ct where
 first:Int:= -1
 last:Int:= -1
 count:Int:=0
 deriving DecidableEq,Repr
structure bf where
 aS:List nf
 bM:List Ct
 deriving DecidableEq,Repr
structure fS where
 size:Int
 most:Int
 aC:List (List Int)
 aK:List Int
 cO:Int
 bV:List Bool
 deriving DecidableEq,Repr
structure Wd where
 dV:Int
 eT:Int
 av:Int
 gs:List bI
 ax:List (Int×Bool)
 au:List Ring
 aO:List Bool
 aq:List Int
 aw:bf
 ah:List gn
 Eg:fS
 list:List Int
 drawn:Int
 draws:List Int
 done:List Ex
 deriving DecidableEq,Repr
def nat?(i:Int):Option Nat:=if 0≤i then some i.toNat else none
def kJ(n:Int):Bool:=decide (-1000000000≤n)&&decide (n≤1000000000)
def Wd.ay(S:Wd)(j:Nat)(y:bI):Wd:={S with gs:=S.gs.set j y}
def Wd.cJ(S:Wd)(j:Nat)(y:gn):Wd:={S with ah:=S.ah.set j y}
def Wd.dZ(S:Wd)(j:Nat)(y:Ring):Wd:={S with au:=S.au.set j y}
def ek(x:List Int)(l who:Int):List Int×Bool:=if 0≤l∧0≤who∧idx x l=some (-1)then(x.set l.toNat who,true)else(x,false)
def oB(x:List Int)(l who:Int):List Int×Bool:=if 0≤l∧0≤who∧idx x l=some who then(x.set l.toNat (-1),true)else(x,false)
def owner(x:List Int)(l:Int):Int:=(idx x l).getD (-1)
def bU(b:List (Int×Bool))(g:Int):Int:=((idx b g).map (·.1)).getD 2
def token(b:List (Int×Bool))(g:Int):Bool:=((idx b g).map (·.2)).getD false
def tD(b:List (Int×Bool))(g:Int):List (Int×Bool)×Bool:=
 if bU b g≠0 then(b,false)else if token b g=true then(b.set g.toNat (0,false),false)else(b.set g.toNat (1,false),true)
def ready(b:List (Int×Bool))(g:Int):List (Int×Bool)×Bool:=
 if bU b g=1 then(b.set g.toNat (0,token b g),true)else if bU b g=0∧token b g=false then(b.set g.toNat (0,true),true)else(b,false)
def Av(b:List (Int×Bool))(g:Int):List (Int×Bool)×Bool:=
 if bU b g≠0 then(b,false)else(b.set g.toNat (2,false),true)
def eY:Nat→List (Int×Bool)→List Int
 |_,[]=>[]
 |i,(st,_)::l=>if st=0 then(i:Int)::eY (i+1) l else eY (i+1) l
def cE(b:List (Int×Bool)):List Int:=eY 0 b
structure Ring.Ok(r:Ring):Prop where
 f0:0≤r.first
 f1:r.first<r.places.length∨r.places.length=0∧r.first=0
 c0:0≤r.count
 c1:r.count≤r.places.length
 len:r.places.length≤64
def Ring.room(r:Ring):Int:=r.places.length
def Ring.full(r:Ring):Bool:=decide (r.count=r.places.length)
def Ring.at_(r:Ring)(i:Int):Nat:=((r.first+i) % r.places.length).toNat
def Ring.put(r:Ring)(v:Int):Ring×Bool:=
 if r.full then(r,false)else({r with places:=r.places.set (r.at_ r.count) v,count:=r.count+1},true)
def Ring.get(r:Ring):Ring×Int×Bool:=
 if r.count=0 then(r,0,false)else({r with first:=r.at_ 1,count:=r.count-1},r.places.getD r.first.toNat 0,true)
def Ring.pass(r:Ring)(v:Int):Ring×Int×Bool:=
 if r.count=0∨r.full=false then(r,0,false)else({r with places:=r.places.set r.first.toNat v,first:=r.at_ 1},r.places.getD r.first.toNat 0,true)
def Ring.all(r:Ring):List Int:=(List.range r.count.toNat).map fun(i:Nat)=>r.places.getD (r.at_ i) 0
def bf.first(q:bf)(k:Int):Int×Bool:=
 match idx q.bM k with
 |some l=>if l.count=0 then(0,false)else(l.first,true)
 |none=>(0,false)
def bf.len(q:bf)(k:Int):Int:=((idx q.bM k).map (·.count)).getD 0
def bf.fJ(q:bf)(j:Nat)(y:nf):bf:={q with aS:=q.aS.set j y}
def bf.fe(q:bf)(j:Nat)(y:Ct):bf:={q with bM:=q.bM.set j y}
def bf.push(q:bf)(k x:Int):Option (bf×Bool):=
 match idx q.bM k,idx q.aS x with
 |some l,some t=>
  if t.pX≠ -1 then some (q,false) else
  if kJ l.count=false then none else
  if l.last= -1 then some ((q.fJ x.toNat {pX:=k,behind:= -1,ahead:=l.last}).fe k.toNat {first:=x,last:=x,count:=l.count+1},true)
  else do
   let y ←nat? l.last
   let ty ←q.aS[y]?
   if y=x.toNat then none else
   some (((q.fJ x.toNat {pX:=k,behind:= -1,ahead:=l.last}).fJ y {ty with behind:=x}).fe k.toNat {l with last:=x,count:=l.count+1},true)
 |_,_=>some (q,false)
def bf.out(q:bf)(x:Nat)(t:nf):Option bf:=do
 let k ←nat? t.pX
 let l ←q.bM[k]?
 if kJ l.count=false then none else
 let(q,l) ←if t.ahead= -1 then some (q,{l with first:=t.behind})else(do
  let y ←nat? t.ahead
  let ty ←q.aS[y]?
  if y=x then none else
  some (q.fJ y {ty with behind:=t.behind},l))
 let(q,l) ←if t.behind= -1 then some (q,{l with last:=t.ahead})else(do
  let y ←nat? t.behind
  let ty ←q.aS[y]?
  if y=x then none else
  some (q.fJ y {ty with ahead:=t.ahead},l))
 some ((q.fe k {l with count:=l.count-1}).fJ x {})
def bf.drop(q:bf)(x:Int):Option (bf×Bool):=
 match idx q.aS x with
 |none=>some (q,false)
 |some t=>if t.pX= -1 then some (q,false)else(q.out x.toNat t).map (·,true)
def fS.cK(p:fS)(x:Int):Bool:=decide (0≤x)&&decide (x<p.cO)&&((idx p.bV x).map (!·)).getD false
def dN:Nat→List Int→List Int→List Int×List Int
 |0,m,c=>(m,c)
 |n+1,m,c=>match m.getLast? with
  |none=>(m,c)
  |some x=>dN n m.dropLast (c++[x])
def nS:Nat→List Int→List Int→List Int×List Int
 |0,m,c=>(m,c)
 |n+1,m,c=>match c.getLast? with
   |none=>(m,c)
   |some x=>nS n (m++[x]) c.dropLast
structure fS.Ok(p:fS):Prop where
 m0:1≤p.most
 m1:p.most≤16
 f0:0≤p.cO
 f1:p.cO≤p.bV.length
 s1:p.size≤p.bV.length
 len:p.bV.length≤64
 mid:∀x∈p.aK,0≤x∧x<p.bV.length
 cac:∀c∈p.aC,∀x∈c,0≤x∧x<p.bV.length
 ml:p.aK.length≤64
 cl:∀c∈p.aC,c.length≤16
def fS.filled(p:fS)(c:List Int):List Int×List Int:=if c=[]then dN (max 1 (p.most.toNat / 2)) p.aK []else(p.aK,c)
def fS.take(p:fS)(g:Nat):fS×Int×Bool:=
 match p.aC[g]? with
 |none=>(p,0,false)
 |some c=>
  match(p.filled c).2.getLast? with
  |some x=>({p with aK:=(p.filled c).1,aC:=p.aC.set g (p.filled c).2.dropLast,bV:=p.bV.set x.toNat false},x,true)
  |none=>if p.cO<p.size then({p with cO:=p.cO+1},p.cO,true)else(p,0,false)
def fS.mu(p:fS)(c:List Int):List Int×List Int:=if(c.length:Int)=p.most then nS (c.length-p.most.toNat / 2) p.aK c else(p.aK,c)
def fS.nh(p:fS)(g:Nat)(x:Int):fS×Bool:=
 match p.aC[g]? with
 |none=>(p,false)
 |some c=>if p.cK x=false then(p,false) else
  ({p with aK:=(p.mu c).1,aC:=p.aC.set g ((p.mu c).2++[x]),bV:=p.bV.set x.toNat true},true)
def fL(w:Wd)(g:Nat)(f:bI→bI):Option Wd:=(w.gs[g]?).map fun x=>w.ay g (f x)
def dH(w:Wd)(g:Nat):cu:=((w.gs[g]?).bind fun x=>idx x.ops x.at_).getD {}
def mf(w:Wd)(g:Nat):Option cu:=if kJ (dH w g).ch∧(dH w g).cases.length≤1000 then some (dH w g)else none
def cZ(w:Wd)(ch:Int):Bool:=decide (1≤ch)&&decide (ch≤w.au.length)
def bu(x:bI):bI:={ops:=x.ops,at_:=x.at_,ae:=x.ae,bU:=x.bU,token:=x.token,aN:= -1,bY:= -1,br:= -1,bF:= -1,fire:= -1,res:={case:= -1}}
def pair(w:Wd)(g s:Nat):Option Wd:=do
 let x ←w.gs[g]?
 let sd ←w.ah[s]?
 let z ←nat? sd.g
 let y ←w.gs[z]?
 if z=g then none else some ((w.ay g {x with point:=x.t,bF:=sd.g}).ay z {y with point:=x.t,bF:=g,fire:=sd.case})
def serve(w:Wd)(g s:Nat)(done:Bool):Option Wd:=do
 let x ←w.gs[g]?
 let sd ←w.ah[s]?
 let z ←nat? sd.g
 let y ←w.gs[z]?
 if z=g∨1000000≤x.wakes.length then none else some (((w.cJ s {sd with done:=done}).ay z {y with aN:=s}).ay g {x with wakes:=x.wakes++[sd.g],br:= -1})
def fZ(w:Wd)(x:Int):Option Wd:=(w.aw.drop x).map fun q=>{w with aw:=q.1}
def lh(w:Wd)(k x:Int):Option Wd:=(w.aw.push k x).map fun q=>{w with aw:=q.1}
def free(w:Wd)(l g:Int):Wd:={w with aq:=(oB w.aq l g).1}
def dk(w:Wd)(g:Nat):Option Wd:=fL w g fun x=>{x with ae:=if x.wakes=[]then 18 else 17}
def lock(w:Wd)(g:Nat)(l:Int):Option Wd:=
 if(ek w.aq l g).2 then fL {w with aq:=(ek w.aq l g).1} g fun x=>{x with ae:=if(dH w g).ai=6 then 21 else 5}else some w
def gH(w:Wd)(g:Nat):Option (Wd×Bool):=do
 let x ←w.gs[g]?
 let o ←mf w g
 if x.ae=4 then(lock w g (o.ch-1)).map (·,true)
 else if x.ae=12 then some ((free w (o.ch-1) g).ay g {x with ae:=13},true)
 else if x.ae=13 then some ({w.ay g {x with ae:=14}with ax:=(tD w.ax g).1},true)
 else if x.ae=15 then do
  let s ←nat? x.bY
  let _ ←w.ah[s]?
  some ((({w.cJ s {}with Eg:=(w.Eg.nh g x.bY).1}:Wd).ay g {x with bY:= -1,ae:=18}),true)
 else if x.ae=16 then(dk (free w (o.ch-1) g) g).map (·,true)
 else if x.ae=17 then do
  let z ←x.wakes[0]?
  (dk (({w with ax:=(ready w.ax z).1}:Wd).ay g {x with wakes:=x.wakes.drop 1}) g).map (·,true)
 else some (w,false)
def dK(w:Wd)(ch:Int):Bool:=cZ w ch&&(idx w.aO (ch-1)).getD false
def cD(w:Wd)(g:Nat)(p:Int):Option Wd:=fL w g fun x=>{x with ae:=p}
def take(w:Wd)(g:Nat)(k Ey hand:Int):Option (Wd×Bool):=
 if(w.aw.first k).2=false then some (w,false)else do
 let s ←nat? (w.aw.first k).1
 let x ←w.gs[g]?
 let sd ←w.ah[s]?
 if 0≤sd.case then some (w.ay g {x with br:=s,ae:=Ey},true)else do
 let w ←fZ (w.ay g {x with br:=s,t:=w.av}) s
 let w ←pair w g s
 (cD w g hand).map (·,true)
def rD(w:Wd)(g:Nat)(lost Eh:Int):Option Wd:=do
 let x ←w.gs[g]?
 let s ←nat? x.br
 let sd ←w.ah[s]?
 let z ←nat? sd.g
 let y ←w.gs[z]?
 if z=g then none else
 if y.bk then do
  let w ←fZ w s
  some (w.ay g {x with br:= -1,ae:=lost})
 else do
  let w ←pair ((w.ay z {y with bk:=true}).ay g {x with t:=w.av}) g s
  cD w g Eh
def rE(w:Wd)(g:Nat)(s:gn):Option Wd:=do
 let x ←w.gs[g]?
 if(w.Eg.take g).2.2 then do
  let j ←nat? (w.Eg.take g).2.1
  let _ ←w.ah[j]?
  some ((({w with Eg:=(w.Eg.take g).1}:Wd).ay g {x with bY:=j,ae:=11}).cJ j s)
 else some (({w with Eg:=(w.Eg.take g).1}:Wd).ay g {x with res:={x.res with aJ:=6},ae:=16})
def bZ(aJ:Int):nP:={aJ:=aJ,case:= -1,ok:=decide (aJ=1)}
def kq(w:Wd)(ch:Int):Option (Nat×Ring):=do
 let c ←nat? (ch-1)
 let r ←w.au[c]?
 some (c,r)
def pY(w:Wd)(ch:Int):Option Bool:=
 if cZ w ch=false then some false else do
  let(_,r) ←kq w ch
  if 0<r.room then some (!r.full)else some (decide (0<w.aw.len (2*ch-2)))
def aH8(w:Wd)(ch v:Int):Option (Wd×Bool):=do
 let(c,r) ←kq w ch
 some (w.dZ c (r.put v).1,(r.put v).2)
def getRing(w:Wd)(ch:Int):Option (Wd×Int×Bool):=do
 let(c,r) ←kq w ch
 some (w.dZ c r.get.1,r.get.2.1,r.get.2.2)
def ll(w:Wd)(g:Nat)(ch:Int):Option Wd:=do
 let room ←pY w ch
 if room then cD w g 4 else fL w g fun x=>{x with point:=w.av,ae:=2}
def jG(w:Wd)(g:Nat)(ch:Int):Option Wd:=
 if dK w ch then fL w g fun x=>{x with point:=0,ae:=4}else fL w g fun x=>{x with res:={x.res with aJ:=2},ae:=18}
def jH(w:Wd)(g:Nat)(ch:Int):Option Wd:=
 if dK w ch then fL w g fun x=>{x with res:=bZ 3,point:=w.av,ae:=16}else cD w g 6
def lp(w:Wd)(g:Nat)(v:Int):Option Wd:=do
 let x ←w.gs[g]?
 let s ←nat? x.br
 let w ←fZ w s
 let sd ←w.ah[s]?
 let w ←serve (w.cJ s {sd with v:=v}) g s true
 fL w g fun x=>{x with res:=bZ 1,ae:=16}
def jY(w:Wd)(g:Nat)(o:cu):Option Wd:=do
 let(w,ok) ←if cZ w o.ch then aH8 w o.ch o.v else some (w,false)
 if ok then fL w g fun x=>{x with res:=bZ 1,point:=w.av,ae:=16}
 else if o.ai=4 then fL w g fun x=>{x with res:=bZ 2,point:=w.av,ae:=16}
 else cD w g 10
def lu(w:Wd)(g:Nat):Option Wd:=do
 let x ←w.gs[g]?
 let s ←nat? x.aN
 let sd ←w.ah[s]?
 some (w.ay g {x with res:=bZ (if sd.done then 1 else 3),aN:= -1,ae:=15})
def rF(w:Wd)(g:Nat)(k:Int):Option Wd:=do
 let x ←w.gs[g]?
 let w ←lh w k x.bY
 some (w.ay g {x with bJ:=w.av,ae:=12})
def yes(x:Option Wd):Option (Wd×Bool):=x.map (·,true)
def jq(w:Wd)(g:Nat):Option (Wd×Bool):=do
 let o ←mf w g
 let x ←w.gs[g]?
 if o.ai≠2∧o.ai≠4 then some (w,false)
 else if x.ae=1 then yes (ll w g o.ch)
 else if x.ae=2 then yes (jG w g o.ch)
 else if x.ae=5 then yes (jH w g o.ch)
 else if x.ae=6 then do
  let(w,ok) ←take w g (2*o.ch-2) 7 8
  if ok then some (w,true)else yes (cD w g 9)
 else if x.ae=7 then yes (rD w g 6 8)
 else if x.ae=8 then yes (lp w g o.v)
 else if x.ae=9 then yes (jY w g o)
 else if x.ae=10 then yes (rE w g {cK:=true,g:=g,ch:=o.ch,case:= -1,cF:=true,v:=o.v})
 else if x.ae=11 then yes (rF w g (2*o.ch-1))
 else if x.ae=14 then yes (lu w g)
 else gH w g
def iX(w:Wd)(ch:Int):Option Bool:=
 if cZ w ch=false then some false else do
  let(_,r) ←kq w ch
  if 0<r.room then some (decide (0<r.count))else some (decide (0<w.aw.len (2*ch-1)))
def ik(w:Wd)(ch:Int)(s:Nat):Option (Wd×Int):=
 if cZ w ch=false then some (w,0)else do
  let sd ←w.ah[s]?
  let(c,r) ←kq w ch
  if r.room=0 then some (w,sd.v)else some (w.dZ c (r.pass sd.v).1,if(r.pass sd.v).2.2 then(r.pass sd.v).2.1 else 0)
def lx(w:Wd)(g:Nat)(ch:Int):Option Wd:=do
 let x ←w.gs[g]?
 if x.ae=1 then do
  let some_ ←iX w ch
  if some_ then cD w g 4 else some (w.ay g {x with point:=w.av,ae:=2})
 else if x.ae=2 then
  if dK w ch then cD w g 3 else some (w.ay g {x with res:={x.res with aJ:=2},ae:=18})
 else do
  let some_ ←iX w ch
  if some_ then some (w.ay g {x with point:=0,ae:=4})else some (w.ay g {x with res:={aJ:=1,case:= -1},point:=w.av,ae:=18})
def jI(w:Wd)(g:Nat)(ch:Int):Option Wd:=do
 let x ←w.gs[g]?
 if dK w ch then do
  let(_,r) ←kq w ch
  if 0<r.count then cD w g 9 else some (w.ay g {x with res:={aJ:=1,case:= -1},point:=w.av,ae:=16})
 else cD w g 6
def pZ(w:Wd)(g:Nat)(ch:Int):Option Wd:=do
 let x ←w.gs[g]?
 let s ←nat? x.br
 let w ←fZ w s
 let(w,v) ←ik w ch s
 let w ←serve w g s true
 fL w g fun x=>{x with res:={aJ:=1,case:= -1,v:=v,ok:=true},ae:=16}
def jZ(w:Wd)(g:Nat)(o:cu):Option Wd:=do
 let(w,v,ok) ←if cZ w o.ch then getRing w o.ch else some (w,0,false)
 if ok then fL w g fun x=>{x with res:={aJ:=1,case:= -1,v:=v,ok:=true},point:=w.av,ae:=16}
 else if o.ai=3 then cD w g 10
 else fL w g fun x=>{x with res:={aJ:=2,case:= -1},point:=w.av,ae:=16}
def iE(w:Wd)(g:Nat)(o:cu):Option Wd:=do
 let x ←w.gs[g]?
 if x.ae=5 then jI w g o.ch
 else if x.ae=6 then do
  let(w,ok) ←take w g (2*o.ch-1) 7 8
  if ok then some w else cD w g 9
 else if x.ae=7 then rD w g 6 8
 else if x.ae=8 then pZ w g o.ch
 else jZ w g o
def j1(w:Wd)(g:Nat)(ch:Int):Option Wd:=do
 let x ←w.gs[g]?
 if x.ae=10 then rE w g {cK:=true,g:=g,ch:=ch,case:= -1}
 else if x.ae=11 then rF w g (2*ch-2)
 else do
  let s ←nat? x.aN
  let sd ←w.ah[s]?
  some (w.ay g {x with res:=if sd.done then{aJ:=1,case:= -1,v:=sd.v,ok:=true}else{aJ:=1,case:= -1},aN:= -1,ae:=15})
def eO(p:Int):Bool:=p=4∨p=12∨p=13∨p=15∨p=16∨p=17
def jr(w:Wd)(g:Nat):Option (Wd×Bool):=do
 let o ←mf w g
 let x ←w.gs[g]?
 if o.ai≠3∧o.ai≠5 then some (w,false)
 else if eO x.ae then gH w g
 else if x.ae=1∨x.ae=2∨x.ae=3 then yes (lx w g o.ch)
 else if x.ae=5∨x.ae=6∨x.ae=7∨x.ae=8∨x.ae=9 then yes (iE w g o)
 else if x.ae=10∨x.ae=11∨x.ae=14 then yes (j1 w g o.ch)
 else some (w,false)
def yo(w:Wd)(g:Nat):Option Wd:=do
 let x ←w.gs[g]?
 let s ←nat? x.br
 let w ←fZ (w.ay g {x with t:=w.av}) s
 let sd ←w.ah[s]?
 let z ←nat? sd.g
 let y ←w.gs[z]?
 if z=g then none else serve (w.ay z {y with point:=w.av,fire:=sd.case}) g s false
def uD(w:Wd)(g:Nat)(ch:Int):Option Wd:=do
 let x ←w.gs[g]?
 if dK w ch then some (w.ay g {x with point:=w.av,res:={aJ:=4,case:= -1},ae:=16})
 else do
  let w ←if cZ w ch then(put w.aO (ch-1) true).map fun c=>{w with aO:=c}else some w
  some (w.ay g {x with point:=w.av,res:={aJ:=1,case:= -1,ok:=true},ae:=22})
def sK(w:Wd)(ch:Int):Int×Bool:=if(w.aw.first (2*ch-2)).2 then w.aw.first (2*ch-2)else w.aw.first (2*ch-1)
def qt(w:Wd)(g:Nat)(ch:Int):Option Wd:=do
 let x ←w.gs[g]?
 if(sK w ch).2=false then cD w g 16 else do
 let s ←nat? (sK w ch).1
 let sd ←w.ah[s]?
 if 0≤sd.case then some (w.ay g {x with br:=s,ae:=23})
 else if sd.case= -1 then yo (w.ay g {x with br:=s}) g
 else some (w.ay g {x with br:=s})
def ly(w:Wd)(g:Nat):Option Wd:=do
 let x ←w.gs[g]?
 let s ←nat? x.br
 let sd ←w.ah[s]?
 let z ←nat? sd.g
 let y ←w.gs[z]?
 if z=g then none else
 if y.bk then do
  let w ←fZ w s
  some (w.ay g {x with br:= -1,ae:=22})
 else do
  let w ←yo (w.ay z {y with bk:=true}) g
  cD w g 22
def js(w:Wd)(g:Nat):Option (Wd×Bool):=do
 let o ←mf w g
 let x ←w.gs[g]?
 if o.ai≠6 then some (w,false)
 else if eO x.ae then gH w g
 else if x.ae=21 then yes (uD w g o.ch)
 else if x.ae=22 then yes (qt w g o.ch)
 else if x.ae=23 then yes (ly w g)
 else some (w,false)
def dU(x:bI):Option Int:=idx x.aH x.k
def iF(o:cu)(i:Int):Option Case:=do
 let c ←idx o.cases i
 if kJ c.ch then some c else none
def eZ(x:bI)(p:Int):bI:={x with k:=x.aq.length,ae:=p}
def jt(w:Wd)(g:Nat)(Yt:Int):Option Wd:=do
 let x ←w.gs[g]?
 let l ←idx x.aq x.k
 if kJ l=false then none else
 if(ek w.aq (l-1) g).2=false then some w else
 if kJ x.k=false then none else
 some (({w with aq:=(ek w.aq (l-1) g).1}:Wd).ay g (if x.k+1=x.aq.length then{x with k:=0,ae:=Yt}else{x with k:=x.k+1}))
def Ys(w:Wd)(g:Nat):Option (Wd×Bool):=do
 let x ←w.gs[g]?
 if kJ x.k=false then none else
 let l ←idx x.aq (x.k-1)
 if kJ l=false then none else
 some ((free w (l-1) g).ay g {x with k:=x.k-1},decide (x.k-1≤0))
def hJ(x:bI):Int:=if x.wakes=[]then 18 else 17
def fG(x:bI):Int:=if x.res.aJ=0 then 13 else if x.bA.any (fun s=>s != -1)then 34 else hJ x
def iH(w:Wd)(g:Nat):Option Wd:=do
 let(w,fin) ←Ys w g
 if fin=false then some w else fL w g fun x=>{x with ae:=fG x}
def eH(w:Wd)(g:Nat):Option Wd:=do
 let x ←w.gs[g]?
 if x.ae=27 then do
  let h ←dU x
  some (w.ay g {x with fire:=h})
 else some w
def te(w:Wd)(g:Nat)(r:nP):Option Wd:=fL w g fun x=>eZ {x with res:=r,point:=w.av,fire:=r.case} 30
def j3(w:Wd)(g:Nat)(o:cu):Option Wd:=do
 let x ←w.gs[g]?
 if kJ x.k=false then none else
 if x.k+1<x.aH.length then some (w.ay g {x with k:=x.k+1})
 else if o.dG then te (w.ay g {x with k:=x.k+1}) g {aJ:=2,case:= -1}
 else some (w.ay g {x with bA:=List.replicate o.cases.length (-1),k:=0,ae:=28})
def j4(w:Wd)(g:Nat)(c:Case):Option (Wd×nP×Bool×Bool):=do
 let cl ←idx w.aO (c.ch-1)
 if cl then some (w,{aJ:=3},true,false)else do
 let(w,ok) ←take w g (2*c.ch-2) 26 27
 if ok then some (w,{},false,true)else do
 let(w,ok) ←aH8 w c.ch c.v
 if ok then some (w,{aJ:=1,ok:=true},true,false)else some (w,{},false,false)
def j5(w:Wd)(g:Nat)(c:Case):Option (Wd×nP×Bool×Bool):=do
 let(w,ok) ←take w g (2*c.ch-1) 26 27
 if ok then some (w,{},false,true)else do
 let(w,v,ok) ←getRing w c.ch
 if ok then some (w,{aJ:=1,v:=v,ok:=true},true,false)else do
 let cl ←idx w.aO (c.ch-1)
 if cl then some (w,{aJ:=1},true,false)else some (w,{},false,false)
def uE(w:Wd)(g:Nat)(o:cu):Option Wd:=do
 let x ←w.gs[g]?
 let i ←dU x
 let c ←iF o i
 let(w,r,done,taken) ←if c.cF then j4 w g c else j5 w g c
 if taken then eH w g else if done then te w g {r with case:=i}else j3 w g o
def jJ(w:Wd)(g:Nat)(o:cu):Option Wd:=do
 let x ←w.gs[g]?
 let i ←dU x
 let s ←nat? x.br
 let c ←iF o i
 let w ←fZ w s
 let(w,v) ←if c.cF then(do
   let sd ←w.ah[s]?
   some (w.cJ s {sd with v:=c.v},0))else ik w c.ch s
 let w ←serve w g s true
 fL w g fun x=>eZ {x with res:={aJ:=1,case:=i,ok:=true,v:=v}} 30
def ju(w:Wd)(g:Nat)(o:cu):Option Wd:=do
 let x ←w.gs[g]?
 if(w.Eg.take g).2.2=false then some (({w with Eg:=(w.Eg.take g).1}:Wd).ay g (eZ {x with res:={x.res with aJ:=6}} 30))
 else do
  let i ←dU x
  let c ←iF o i
  let j ←nat? (w.Eg.take g).2.1
  let _ ←w.ah[j]?
  let sg ←put x.bA i j
  if kJ x.k=false then none else
  some ((({w with Eg:=(w.Eg.take g).1}:Wd).cJ j {cK:=true,g:=g,ch:=c.ch,case:=i,cF:=c.cF,v:=c.v}).ay g
   (if x.aH.length≤x.k+1 then{x with bA:=sg,k:=0,ae:=29}else{x with bA:=sg,k:=x.k+1}))
def gK(w:Wd)(g:Nat)(o:cu):Option Wd:=do
 let x ←w.gs[g]?
 let i ←dU x
 let c ←iF o i
 let s ←idx x.bA i
 let w ←lh w (if c.cF then 2*c.ch-1 else 2*c.ch-2) s
 if kJ x.k=false then none else
 some (w.ay g (if x.aH.length≤x.k+1 then eZ {x with bJ:=w.av} 30 else{x with k:=x.k+1}))
def mK(s:gn):nP:=if s.done&&s.cF then{aJ:=1,case:=s.case,ok:=true}else if s.done then{aJ:=1,case:=s.case,ok:=true,v:=s.v}else if s.cF then{aJ:=3,case:=s.case}else{aJ:=1,case:=s.case}
def uF(w:Wd)(g:Nat):Option Wd:=do
 let x ←w.gs[g]?
 let p ←nat? x.aN
 let s ←w.ah[p]?
 some (w.ay g {x with res:=mK s,aN:= -1,k:=0,ae:=31})
def uG(w:Wd)(g:Nat):Option Wd:=do
 let x ←w.gs[g]?
 let i ←dU x
 let s ←idx x.bA i
 let w ←fZ w s
 if kJ x.k=false then none else
 some (w.ay g (if x.aH.length≤x.k+1 then eZ x 33 else{x with k:=x.k+1}))
def jK(w:Wd)(g:Nat):Option Wd:=do
 let x ←w.gs[g]?
 let i ←dU x
 let s ←idx x.bA i
 let w ←if s= -1 then some w else(do
  let j ←nat? s
  let _ ←w.ah[j]?
  some (({w with Eg:=(w.Eg.nh g s).1}:Wd).cJ j {}))
 let sg ←put x.bA i (-1)
 if kJ x.k=false then none else
 some (w.ay g (if x.aH.length≤x.k+1 then{x with k:=0,bA:=[],ae:=hJ x}else{x with bA:=sg,k:=x.k+1}))
def hO(w:Wd)(g:Nat):Option (Wd×Bool):=do
 let o ←mf w g
 let x ←w.gs[g]?
 if o.ai≠9 then some (w,false)
 else if x.ae=13∨x.ae=17 then gH w g
 else if x.ae=24 then yes (jt w g 25)
 else if x.ae=25 then yes (uE w g o)
 else if x.ae=26 then yes ((rD w g 25 27).bind (eH · g))
 else if x.ae=27 then yes (jJ w g o)
 else if x.ae=28 then yes (ju w g o)
 else if x.ae=29 then yes (gK w g o)
 else if x.ae=30 then yes (iH w g)
 else if x.ae=14 then yes (uF w g)
 else if x.ae=31 then yes (jt w g 32)
 else if x.ae=32 then yes (uG w g)
 else if x.ae=33 then do
  let(w,fin) ←Ys w g
  if fin then yes (cD w g 34)else some (w,true)
 else if x.ae=34 then yes (jK w g)
 else some (w,false)
def ND(l:List Int)(i j:Nat):List Int:=(l.set i (l.getD j 0)).set j (l.getD i 0)
def kB(ds:List Int):Nat→List Int
 |0=>[]
 |k+1=>ND (kB ds k++[(k:Int)]) k (ds.getD k 0 % ((k:Int)+1)).toNat
def ji(x:Int):List Int→List Int
 | []=>[x]
 |y::l=>if x≤y then x::y::l else y::ji x l
def jL(out:List Int)(x:Int):List Int:=if x≤0 then out else if 0<out.length∧out.getD (out.length-1) 0=x then out else out++[x]
def kf(ids:List Int):List Int:=(ids.foldr ji []).foldl jL []
def gw(l:List Int)(d n:Int):Int×Int:=if n<1∨(l.length:Int)≤d then(0,d)else(((idx l d).getD 0) % n,d+1)
def gy(l:List Int):Int→Nat→Nat→List Int×Int
 |d,_,0=>([],d)
 |d,i,n+1=>let r:=gw l d (i+1);let rest:=gy l r.2 (i+1) n;(r.1::rest.1,rest.2)
def never(w:Wd)(g:Nat):Option Wd:=cD {w with ax:=(tD w.ax g).1} g 19
def Nc(w:Wd)(g:Nat)(aJ:Int):Option Wd:=fL w g fun x=>{x with res:={aJ:=aJ,case:= -1},point:=w.av,ae:=18}
def kr(w:Wd)(o:cu)(ds:List Int):Option (List (Int×Int)):=
 ((kB ds ds.length).mapM fun i=>(iF o i).map fun c=>(i,c.ch)).map (·.filter fun p=>cZ w p.2)
def gM(w:Wd)(g:Nat)(o:cu):Option Wd:=do
 if kJ w.drawn=false∨w.drawn<0 then none else
 let r:=gy w.list w.drawn 0 o.cases.length
 let cs ←kr w o r.1
 let x ←w.gs[g]?
 let w:=({w with drawn:=r.2}:Wd).ay g {x with aH:=cs.map (·.1),aq:=kf (cs.map (·.2))}
 if cs≠[]then cD w g 24 else if o.dG then Nc w g 2 else never w g
def jT(w:Wd)(g:Nat):Option Wd:=do
 let x ←w.gs[g]?
 if(x.ops.length:Int)≤x.at_ then some {w with ax:=(Av w.ax g).1}else do
  let o ←mf w g
  let m:=cZ w o.ch
  let w:=w.ay g {bu x with call:=w.av}
  if o.ai=1∨o.ai=7∨o.ai=8 then cD w g 20
  else if o.ai=2∨o.ai=3 then if m then cD w g 4 else never w g
  else if o.ai=4∨o.ai=5 then if m then cD w g 1 else Nc w g 2
  else if o.ai=6 then if m then cD w g 4 else Nc w g 5
  else if o.ai=9 then gM w g o
  else some w
def makeChan(w:Wd)(room:Int):Option (Wd×nP):=
 if 8≤w.au.length then some (w,{aJ:=7,case:= -1})
 else if room<0∨64<room then none
 else
  some ({w with au:=w.au++[{places:=List.replicate room.toNat 0}],aO:=w.aO++[false],aq:=w.aq++List.replicate (w.au.length+1-w.aq.length) (-1)},{aJ:=1,case:= -1,ok:=true,n:=w.au.length+1})
def wQ(w:Wd)(o:cu):Option Int:=
 if cZ w o.ch=false then some 0 else(kq w o.ch).map fun r=>if o.ai=7 then r.2.count else r.2.room
def KZ(w:Wd)(g:Nat):Option Wd:=do
 let o ←mf w g
 let x ←w.gs[g]?
 if o.ai=1 then do
  let(w,r) ←makeChan w o.n
  some (w.ay g {x with res:=r,point:=w.av,ae:=18})
 else if o.ai=7∨o.ai=8 then do
  let n ←wQ w o
  some (w.ay g {x with res:={aJ:=1,case:= -1,ok:=true,n:=n},point:=w.av,ae:=18})
 else some (w.ay g {x with point:=w.av,ae:=18})
def qu(x:bI)(g re:Int):Ex:={g:=g,op:=x.at_,call:=x.call,bJ:=x.bJ,point:=x.point,bF:=x.bF,fire:=x.fire,re:=re,res:=x.res}
def mL(w:Wd)(g:Nat):Option Wd:=do
 let x ←w.gs[g]?
 if kJ x.at_=false then none else
 if 1000000≤w.done.length then none else
 some (({w with done:=w.done++[qu x g w.av]}:Wd).ay g {bu {x with at_:=x.at_+1}with ae:=0})
def gh(w:Wd)(g:Nat):Option (Wd×Bool):=do
 let x ←w.gs[g]?
 if x.ae=0 then yes (jT w g)
 else if x.ae=20 then yes (KZ w g)
 else if x.ae=18 then yes (mL w g)
 else some (w,false)
def pA(l:List Int)(pick:Int):Int:=l.getD (pick % l.length).toNat 0
def gj(p:List (List cu))(ah cache:Int)(draws:List Int):Wd:=
 {dV:=ah,eT:=cache,av:=0,gs:=p.map fun l=>bu {ops:=l},ax:=p.map fun _=>(0,false),au:=[],aO:=[],aq:=[],
  aw:={aS:=List.replicate ah.toNat {},bM:=List.replicate 16 {}},ah:=List.replicate ah.toNat {},
  Eg:={size:=ah,most:=cache,aC:=p.map fun _=>[],aK:=[],cO:=0,bV:=List.replicate ah.toNat false},list:=draws,drawn:=0,draws:=draws,done:=[]}
end Mach
open Go.RowKit
def bT{α:Type}(f:Nat→α→List Value):Nat→List α→List Value
 |_,[]=>[]
 |i,x::l=>f i x++bT f (i+1) l
theorem aV9{α:Type}{f:Nat→α→List Value}{k:Nat}(hk:∀i x,(f i x).length=k):∀(l:List α) (i:Nat),(bT f i l).length=l.length*k
 | [],_=>by simp[bT]
 |x::l,i=>by simp[bT,hk,aV9 hk l,Nat.succ_mul];omega
theorem fq{α:Type}{f:Nat→α→List Value}{k:Nat}(hk:∀i x,(f i x).length=k):∀(l:List α) (i g j:Nat) (x:α),l[g]?=some x→j<k→(bT f i l)[g*k+j]?=(f (i+g) x)[j]?
 | [],_,_,_,_,h,_=>bj5
 |y::l,i,0,j,x,h,hj=>by simp at h;subst h;simp only[bT,Nat.zero_mul,Nat.zero_add,Nat.add_zero];rw[Ev (by rw[hk];exact hj)]
 |y::l,i,g+1,j,x,h,hj=>by simp only[bT];rw[Ew bt4,hk];have:=fq hk l (i+1) g j x bj3 hj;rw[show(g+1)*k+j-k=g*k+j by rw[Nat.succ_mul];omega,this,show i+1+g=i+(g+1)by omega]
theorem oC{α:Type}{f:Nat→α→List Value}{k:Nat}(hk:∀i x,(f i x).length=k):∀(l:List α) (i g j:Nat) (x y:α) (v:Value),l[g]?=some x→j<k→f (i+g) y=(f (i+g) x).set j v→bT f i (l.set g y)=(bT f i l).set (g*k+j) v
 | [],_,_,_,_,_,_,h,_,_=>bj5
 |z::l,i,0,j,x,y,v,h,hj,hf=>by simp at h;subst h;simp only[List.set_cons_zero,bT,Nat.zero_mul,Nat.zero_add];rw[List.set_append_left _ _ (by rw[hk];exact hj)];rw[Nat.add_zero]at hf;rw[hf]
 |z::l,i,g+1,j,x,y,v,h,hj,hf=>by simp only[List.set_cons_succ,bT];rw[List.set_append_right _ _ bt4,hk];rw[show(g+1)*k+j-k=g*k+j by rw[Nat.succ_mul];omega];rw[oC hk l (i+1) g j x y v bj3 hj bp9]
theorem ni{α:Type}(f:Nat→α→List Value):∀(l l':List α) (i:Nat),bT f i (l++l')=bT f i l++bT f (i+l.length) l'
 | [],l',i=>by simp[bT]
 |x::l,l',i=>by simp[bT,ni f l l' (i+1),List.append_assoc];rw[show i+1+l.length=i+(l.length+1)by omega]
theorem iI{α:Type}{f f':Nat→α→List Value}:∀(l:List α) (i:Nat),(∀j x,l[j]?=some x→f (i+j) x=f' (i+j) x)→bT f i l=bT f' i l
 | [],_,_=>rfl
 |x::l,i,h=>by simp only[bT];have e0:f i x=f' i x:=h 0 x sX;have e1:bT f (i+1) l=bT f' (i+1) l:=iI l (i+1) (fun j y hy=>by have e:=h (j+1) y (by simpa using hy);have e2:i+1+j=i+(j+1):=oX;rw[e2];exact e);rw[e0,e1]
inductive bH where
 |al|gs|dB|ax|au|eU (i:Nat)|places (i:Nat)|aO|dY|dQ|aw|aS|bM|ah
 |Eg|aC|cache (g:Nat)|aK|bV|gN|list|draws|done
 |ops (g:Nat)|cases(g j:Nat)|aH (g:Nat)|aq (g:Nat)|bA (g:Nat)|wakes (g:Nat)
 deriving DecidableEq
structure Mem where
 aV:bH→Option Nat
 cap:bH→Nat
def Mem.cU(m:Mem)(r:bH)(n:Nat):Value:=match m.aV r with|none=> .slice none 0 0|some b=> .slice (some ⟨b,0,none⟩) n (m.cap r)
def Mem.ptr(m:Mem)(r:bH):Value:=.pointer ((m.aV r).map fun b=>⟨b,0,none⟩)
theorem Mem.de{m:Mem}{r:bH}{b:Nat}(h:m.aV r=some b)(n:Nat):m.cU r n=.slice (some ⟨b,0,none⟩) n (m.cap r):=by simp[Mem.cU,h]
theorem Mem.mM(m:Mem)(r:bH)(n:Nat):(m.cU r n).ownBlock=m.aV r:=by
 cases h:m.aV r<;>simp[Mem.cU,h,Value.ownBlock]
theorem Mem.j6{m:Mem}{r:bH}(h:m.aV r=none)(n:Nat):m.cU r n=.slice none 0 0:=by simp[Mem.cU,h]
theorem Mem.lz{m:Mem}{r:bH}{b:Nat}(h:m.aV r=some b):m.ptr r=.pointer (some ⟨b,0,none⟩):=by simp[Mem.ptr,h]
structure Fx where
 al:Nat
 gs:Nat
 dB:Nat
 ax:Nat
 dY:Nat
 aw:Nat
 aS:Nat
 bM:Nat
 ah:Nat
 Eg:Nat
 aC:Nat
 bV:Nat
 gN:Nat
structure Fx.Of(F:Fx)(m:Mem):Prop where
 al:m.aV .al=some F.al
 gs:m.aV .gs=some F.gs
 dB:m.aV .dB=some F.dB
 ax:m.aV .ax=some F.ax
 dY:m.aV .dY=some F.dY
 aw:m.aV .aw=some F.aw
 aS:m.aV .aS=some F.aS
 bM:m.aV .bM=some F.bM
 ah:m.aV .ah=some F.ah
 Eg:m.aV .Eg=some F.Eg
 aC:m.aV .aC=some F.aC
 bV:m.aV .bV=some F.bV
 gN:m.aV .gN=some F.gN
open Mach
abbrev I(n:Int):Value:=.int .i64 n
abbrev B(b:Bool):Value:=.bool b
abbrev U(n:Int):Value:=.int .u16 n
def ru(r:nP):List Value:=[I r.aJ,I r.case,I r.v,B r.ok,I r.n]
def fT(_:Nat)(c:Case):List Value:=[B c.cF,I c.ch,I c.v]
def Cu(m:Mem)(g:Nat)(j:Nat)(o:cu):List Value:=[I o.ai,I o.ch,I o.n,I o.v,m.cU (.cases g j) o.cases.length,B o.dG]
def gk(m:Mem)(g:Nat)(x:bI):List Value:=
 [m.cU (.ops g) x.ops.length,I x.at_,I x.ae,I x.bU,B x.token,I x.call,B x.bk,I x.aN,I x.bY,I x.br,I x.t,I x.bJ,I x.point,I x.bF,I x.fire]++ru x.res++
 [m.cU (.aH g) x.aH.length,m.cU (.aq g) x.aq.length,m.cU (.bA g) x.bA.length,m.cU (.wakes g) x.wakes.length,I x.k]
def mg(_:Nat)(s:gn):List Value:=[B s.cK,I s.g,I s.ch,I s.case,B s.cF,I s.v,B s.done]
def ib(_:Nat)(x:Ex):List Value:=[I x.g,I x.op,I x.call,I x.bJ,I x.point,I x.bF,I x.fire,I x.re]++ru x.res
def oD(_:Nat)(x:nf):List Value:=[I x.pX,I x.behind,I x.ahead]
def rG(_:Nat)(x:Ct):List Value:=[I x.first,I x.last,I x.count]
def ry(_:Nat)(x:Int×Bool):List Value:=[I x.1,B x.2]
def je(m:Mem)(g:Nat)(c:List Int):List Value:=[m.cU (.cache g) c.length]
def aj(m:Mem)(S:Wd):bH→List Value
 | .al=>[I S.dV,I S.eT,I S.av,m.cU .gs S.gs.length,m.ptr .dB,m.cU .au S.au.length,m.cU .aO S.aO.length,m.ptr .dY,m.ptr .aw,m.cU .ah S.ah.length,
   m.ptr .Eg,m.ptr .gN,m.cU .draws S.draws.length,m.cU .done S.done.length]
 | .gs=>bT (gk m) 0 S.gs
 | .dB=>[m.cU .ax S.ax.length]
 | .ax=>bT ry 0 S.ax
 | .au=>(List.range S.au.length).map fun i=>m.ptr (.eU i)
 | .eU i=>match S.au[i]? with|some r=>[m.cU (.places i) r.places.length,I r.first,I r.count]|none=>[]
 | .places i=>match S.au[i]? with|some r=>r.places.map I|none=>[]
 | .aO=>S.aO.map B
 | .dY=>[m.cU .dQ S.aq.length]
 | .dQ=>S.aq.map I
 | .aw=>[m.cU .aS S.aw.aS.length,m.cU .bM S.aw.bM.length]
 | .aS=>bT oD 0 S.aw.aS
 | .bM=>bT rG 0 S.aw.bM
 | .ah=>bT mg 0 S.ah
 | .Eg=>[I S.Eg.size,I S.Eg.most,m.cU .aC S.Eg.aC.length,m.cU .aK S.Eg.aK.length,I S.Eg.cO,m.cU .bV S.Eg.bV.length]
 | .aC=>bT (je m) 0 S.Eg.aC
 | .cache g=>match S.Eg.aC[g]? with|some c=>c.map I|none=>[]
 | .aK=>S.Eg.aK.map I
 | .bV=>S.Eg.bV.map B
 | .gN=>[m.cU .list S.list.length,I S.drawn]
 | .list=>S.list.map U
 | .draws=>S.draws.map U
 | .done=>bT ib 0 S.done
 | .ops g=>match S.gs[g]? with|some x=>bT (Cu m g) 0 x.ops|none=>[]
 | .cases g j=>match S.gs[g]? with|some x=>(match x.ops[j]? with|some o=>bT fT 0 o.cases|none=>[])|none=>[]
 | .aH g=>match S.gs[g]? with|some x=>x.aH.map I|none=>[]
 | .aq g=>match S.gs[g]? with|some x=>x.aq.map I|none=>[]
 | .bA g=>match S.gs[g]? with|some x=>x.bA.map I|none=>[]
 | .wakes g=>match S.gs[g]? with|some x=>x.wakes.map I|none=>[]
def eI:bH→Option (Nat×Nat)
 | .gs=>some (100,25)| .au=>some (118,1)| .aO=>some (4,1)| .dQ=>some (3,1)| .cache _=>some (3,1)| .aK=>some (3,1)| .wakes _=>some (3,1)| .done=>some (46,13)
 |_=>none
def gl(w:World)(b:Nat)(ty:Option (Nat×Nat))(cap:Nat)(cs:List Value):Prop:=
 ∃arr t,w.heap[b]?=some (.cells arr t (0,0))∧cs.length≤arr.size∧arr.toList.take cs.length=cs∧∀p,ty=some p→t=p.1∧arr.size=cap*p.2∧cap≤maxLen
structure bz(af:Nat)(F:Fx)(w:World)(m:Mem)(S:Wd):Prop where
 inj:∀r r' b,m.aV r=some b→m.aV r'=some b→r=r'
 lies:∀r b,m.aV r=some b→af≤b∧gl w b (eI r) (m.cap r) (aj m S r)
 none_:∀r,m.aV r=none→aj m S r=[]
 aB:F.Of m
section
variable{w w':World}{b cap:Nat}{ty:Option (Nat×Nat)}{cs:List Value}
theorem gl.cell(h:gl w b ty cap cs)(j:Nat)(v:Value)(hj:cs[j]?=some v):w.cell? ⟨b,j,none⟩=some v:=by
 obtain⟨arr,t,hb,hl,ht,_⟩:=h;rw[cr w b j arr t _ hb];have dD:j<cs.length:=cA hj;rw[←ht,List.getElem?_take_of_lt dD]at hj;simpa using hj
theorem gl.frozen(h:gl w b ty cap cs)(j:Nat):w.frozen? ⟨b,j,none⟩=false:=by
 obtain⟨arr,t,hb,_⟩:=h;exact iM w b j _ _ hb
theorem gl.lt(h:gl w b ty cap cs):b<w.heap.size:=by
 obtain⟨arr,t,hb,_⟩:=h;exact(dh hb).1
theorem gl.other(h:gl w b ty cap cs)(hb:w'.heap[b]?=w.heap[b]?):gl w' b ty cap cs:=by
 obtain⟨arr,t,h1,h2⟩:=h;exact⟨arr,t,hb.trans h1,h2⟩
theorem gl.set(h:gl w b ty cap cs)(j:Nat)(v:Value):gl (w.setCell ⟨b,j,none⟩ v) b ty cap (cs.set j v):=by
 obtain⟨arr,t,hb,hl,ht,hr⟩:=h;refine⟨arr.setIfInBounds j v,t,heap_setCell_same w b j arr t v hb,by simpa using hl,?_,by simpa using hr⟩;rw[Array.toList_setIfInBounds,kI,List.take_set,ht]
theorem gl.take(h:gl w b ty cap cs)(n:Nat):gl w b ty cap (cs.take n):=by
 obtain⟨arr,t,hb,hl,ht,hr⟩:=h;refine⟨arr,t,hb,bi8,?_,hr⟩;rw[tC,←ht];simp only[List.take_take,tC,Array.length_toList];congr 1;omega
theorem gl.kg{af n:Nat}{p:Nat×Nat}{a:Nat}{c:Nat}{ty:Option (Nat×Nat)}(nI:∀q,ty=some q→q=p)(h:w.ownsRow af p.1 p.2 (.slice (some ⟨a,0,none⟩) n c) n cs):af≤a∧gl w a ty c cs:=by
 obtain⟨hl,h⟩:=h;rcases h with⟨h,_⟩|⟨g,cap,cur,he,hg,hb,hn,hm,hs,ht⟩
 ·cases h
 ·cases he;refine⟨hg,cur,p.1,hb,?_,by rw[hl];exact ht,fun q hq=>?_⟩
  ·rw[hl,hs];exact Nat.mul_le_mul_right _ hn
  ·rw[nI q hq];exact⟨rfl,hs,hm⟩
end
structure pe(m:Mem)(w:World)(m':Mem)(w':World):Prop where
 os:w'.os=w.os
 tape:w'.tape=w.tape
 output:w'.output=w.output
 size:w.heap.size≤w'.heap.size
 keep:∀b,b<w.heap.size→(∀r,m.aV r≠some b)→w'.heap[b]?=w.heap[b]?
 old:∀r b,m'.aV r=some b→(∃r0,m.aV r0=some b)∨w.heap.size≤b
theorem pe.refl(m:Mem)(w:World):pe m w m w:=⟨rfl,rfl,rfl,Nat.le_refl _,fun _ _ _=>rfl,fun r _ h=> .inl ⟨r,h⟩⟩
theorem pe.trans{m m1 m2:Mem}{w w1 w2:World}(h:pe m w m1 w1)(k:pe m1 w1 m2 w2):pe m w m2 w2:=by
 refine⟨k.os.trans h.os,k.tape.trans h.tape,k.output.trans h.output,jm h.size k.size,fun b hb hn=>?_,fun r b hb=>?_⟩
 ·rw[k.keep b (uB hb h.size) (fun r hr=>?_),h.keep b hb hn];rcases h.old r b hr with⟨r0,h0⟩|h0
  ·exact hn r0 h0
  ·omega
 ·rcases k.old r b hb with⟨r0,h0⟩|h0
  ·exact h.old r0 b h0
  ·exact .inr (jm h.size h0)
structure At(af:Nat)(F:Fx)(m0:Mem)(w0:World)(m:Mem)(w:World)(S:Wd):Prop where
 mv:pe m0 w0 m w
 bj:bz af F w m S
def To(af:Nat)(F:Fx)(m0:Mem)(w0:World)(S:Wd)(w:World):Prop:=∃m,At af F m0 w0 m w S
section
variable{af b j:Nat}{F:Fx}{w w':World}{m:Mem}{S S':Wd}{r:bH}{v:Value}
theorem bz.cell(R:bz af F w m S)(hb:m.aV r=some b)(hj:(aj m S r)[j]?=some v):w.cell? ⟨b,j,none⟩=some v:=(R.lies r b hb).2.cell j v hj
theorem bz.frozen(R:bz af F w m S)(hb:m.aV r=some b)(j:Nat):w.frozen? ⟨b,j,none⟩=false:=(R.lies r b hb).2.frozen j
theorem bz.lt(R:bz af F w m S)(hb:m.aV r=some b):b<w.heap.size:=(R.lies r b hb).2.lt
section
variable(R:bz af F w m S)
include R
theorem bz.ge(hb:m.aV r=some b):af≤b:=(R.lies r b hb).1
theorem bz.ne{r':bH}{b':Nat}(hb:m.aV r=some b)(ff:m.aV r'=some b')(h:r≠r':=by simp):b≠b':=fun e=>h (R.inj r r' b hb (e▸ff))
theorem bz.has(h:aj m S r≠[]):∃b,m.aV r=some b:=by
 cases hb:m.aV r with
 |none=>exact aX (R.none_ r hb) h
 |some b=>exact⟨b,rfl⟩
end
theorem bz.heap(R:bz af F w m S)(h:∀r b,m.aV r=some b→w'.heap[b]?=w.heap[b]?):bz af F w' m S:=
 ⟨R.inj,fun r b hb=>⟨(R.lies r b hb).1,(R.lies r b hb).2.other (h r b hb)⟩,R.none_,R.aB⟩
theorem bz.drew(R:bz af F w m S):bz af F w.drew m S:=R.heap fun _ _ _=>rfl
theorem bz.below(R:bz af F w m S)(h:Below w.heap.size w w'):bz af F w' m S:=R.heap fun _ b hb=>h.block b (R.lt hb)
theorem bz.congr(R:bz af F w m S)(h:∀r,aj m S' r=aj m S r):bz af F w m S':=
 ⟨R.inj,fun r b hb=>by rw[h r];exact R.lies r b hb,fun r hr=>by rw[h r];exact R.none_ r hr,R.aB⟩
theorem bz.set(R:bz af F w m S)(hb:m.aV r=some b)(hr:aj m S' r=(aj m S r).set j v)(ho:∀r',r'≠r→aj m S' r'=aj m S r'):bz af F (w.setCell ⟨b,j,none⟩ v) m S':=by
 refine⟨R.inj,fun r' b' ff=>?_,fun r' hT=>?_,R.aB⟩
 ·by_cases he:r'=r
  ·subst he;obtain rfl:b'=b:=by rw[hb]at ff;exact(mx ff).symm
   rw[hr];exact⟨(R.lies _ _ hb).1,(R.lies _ _ hb).2.set j v⟩
  ·rw[ho r' he];exact⟨(R.lies _ _ ff).1,(R.lies _ _ ff).2.other (fQ _ _ _ _ (R.ne ff hb he))⟩
 ·have he:r'≠r:=fun e=>by rw[e,hb]at hT;cases hT
  rw[ho r' he];exact R.none_ r' hT
def Mem.eG(m:Mem)(r:bH)(b:Option Nat)(c:Nat):Mem:=⟨fun r'=>if r'=r then b else m.aV r',fun r'=>if r'=r then c else m.cap r'⟩
theorem Mem.dL(m:Mem)(r:bH)(b:Option Nat)(c:Nat):(m.eG r b c).aV r=b:=by simp[Mem.eG]
theorem Mem.bN(m:Mem){r r':bH}(b:Option Nat)(c:Nat)(h:r'≠r):(m.eG r b c).aV r'=m.aV r':=by simp[Mem.eG,h]
theorem Mem.xM(m:Mem)(r:bH)(b:Option Nat)(c:Nat):(m.eG r b c).cap r=c:=by simp[Mem.eG]
theorem Mem.rH(m:Mem){r r':bH}(b:Option Nat)(c:Nat)(h:r'≠r):(m.eG r b c).cap r'=m.cap r':=by simp[Mem.eG,h]
theorem Mem.qv(m:Mem){r r':bH}(b:Option Nat)(c n:Nat)(h:r'≠r):(m.eG r b c).cU r' n=m.cU r' n:=by simp[Mem.cU,Mem.eG,h]
theorem Mem.uH(m:Mem)(r:bH)(b c n:Nat):(m.eG r (some b) c).cU r n=.slice (some ⟨b,0,none⟩) n c:=by simp[Mem.cU,Mem.eG]
theorem Mem.sL(m:Mem){r r':bH}(b:Option Nat)(c:Nat)(h:r'≠r):(m.eG r b c).ptr r'=m.ptr r':=by simp[Mem.ptr,Mem.eG,h]
def bH.loose:bH→Bool
 | .au| .eU _| .places _| .aO| .dQ| .cache _| .aK| .list| .draws| .done| .ops _| .cases _ _| .aH _| .aq _| .bA _| .wakes _=>true
 |_=>false
theorem Fx.Of.eG(h:F.Of m)(hr:r.loose=true)(o:Option Nat)(c:Nat):F.Of (m.eG r o c):=by
 constructor<;>(rw[Mem.bN _ _ _ (by rintro rfl;cases hr)];first|exact h.al|exact h.gs|exact h.dB|exact h.ax|exact h.dY|exact h.aw|exact h.aS|exact h.bM|exact h.ah|exact h.Eg|exact h.aC|exact h.bV|exact h.gN)
theorem bz.row(R:bz af F w m S)(hl:r.loose=true){rp:bH}{bp c:Nat}{o:Option Nat}(hp:m.aV rp=some bp)(cM:rp≠r)(hg:∀g,o=some g→af≤g∧gl w g (eI r) c (aj (m.eG r o c) S' r)∧∀r' b',r'≠r→m.aV r'=some b'→b'≠g)(kK:o=none→aj (m.eG r o c) S' r=[])(oE:aj (m.eG r o c) S' rp=(aj m S rp).set j v)(ho:∀r',r'≠r→r'≠rp→aj (m.eG r o c) S' r'=aj m S r'):bz af F (w.setCell ⟨bp,j,none⟩ v) (m.eG r o c) S':=by
 refine⟨fun r1 r2 b' h1 h2=>?_,fun r' b' ff=>?_,fun r' hT=>?_,R.aB.eG hl _ _⟩
 ·by_cases e1:r1=r<;>by_cases e2:r2=r
  ·rw[e1,e2]
  ·subst e1;rw[Mem.dL]at h1;rw[Mem.bN _ _ _ e2]at h2;exact aX rfl ((hg b' h1).2.2 r2 b' e2 h2)
  ·subst e2;rw[Mem.dL]at h2;rw[Mem.bN _ _ _ e1]at h1;exact aX rfl ((hg b' h2).2.2 r1 b' e1 h1)
  ·rw[Mem.bN _ _ _ e1]at h1;rw[Mem.bN _ _ _ e2]at h2;exact R.inj r1 r2 b' h1 h2
 ·by_cases e1:r'=r
  ·subst e1;rw[Mem.dL]at ff;obtain⟨h1,h2,h3⟩:=hg b' ff;rw[Mem.xM];exact⟨h1,h2.other (fQ _ _ _ _ (dE (h3 rp bp cM hp)))⟩
  ·rw[Mem.bN _ _ _ e1]at ff;rw[Mem.rH _ _ _ e1];by_cases e2:r'=rp
   ·subst e2;obtain rfl:b'=bp:=by rw[hp]at ff;exact(mx ff).symm
    rw[oE];exact⟨(R.lies _ _ hp).1,(R.lies _ _ hp).2.set j v⟩
   ·rw[ho r' e1 e2];exact⟨(R.lies _ _ ff).1,(R.lies _ _ ff).2.other (fQ _ _ _ _ (R.ne ff hp e2))⟩
 ·by_cases e1:r'=r
  ·subst e1;rw[Mem.dL]at hT;exact kK hT
  ·have e2:r'≠rp:=fun e=>by rw[Mem.bN _ _ _ e1,e,hp]at hT;cases hT
   rw[Mem.bN _ _ _ e1]at hT;rw[ho r' e1 e2];exact R.none_ r' hT
theorem bz.owns(R:bz af F w m S){p:Nat×Nat}(nI:eI r=some p)(h0:0<p.2){n:Nat}(hn:(aj m S r).length=n*p.2):w.ownsRow af p.1 p.2 (m.cU r n) n (aj m S r):=by
 cases hb:m.aV r with
 |none=>
  have:=R.none_ r hb;rw[this]at hn ⊢
  have:n=0:=by
   exact be9
  subst this;rw[Mem.j6 hb];exact World.ownsRow_nil _ _ _ _
 |some b=>
  obtain⟨hg,arr,t,h1,h2,h3,h4⟩:=R.lies r b hb;obtain⟨rfl,h5,h6⟩:=h4 p nI;rw[Mem.de hb];refine⟨hn,.inr ⟨b,m.cap r,arr,rfl,hg,h1,?_,h6,h5,by rw[←hn];exact h3⟩⟩;rw[hn,h5]at h2;exact Nat.le_of_mul_le_mul_right h2 h0
variable{m0:Mem}{w0:World}
theorem At.refl(R:bz af F w m S):At af F m w m w S:=⟨.refl _ _,R⟩
theorem At.cont{m1:Mem}{w1:World}{S1:Wd}(A:At af F m0 w0 m w S)(T:At af F m w m1 w1 S1):At af F m0 w0 m1 w1 S1:=⟨A.mv.trans T.mv,T.bj⟩
theorem At.to(A:At af F m0 w0 m w S):To af F m0 w0 S w:=⟨m,A⟩
theorem bz.to(R:bz af F w m S):To af F m w S w:=⟨m,.refl R⟩
theorem At.drew(A:At af F m0 w0 m w S):At af F m0 w0 m w.drew S:=⟨⟨A.mv.os,A.mv.tape,A.mv.output,A.mv.size,A.mv.keep,A.mv.old⟩,A.bj.drew⟩
theorem At.alloc(A:At af F m0 w0 m w S)(o:Obj):At af F m0 w0 m (w.alloc o) S:=by
 refine⟨A.mv.trans ⟨rfl,rfl,rfl,sX,fun b hb _=>gf w o b hb,fun r b h=> .inl ⟨r,h⟩⟩,A.bj.heap fun r b hb=>gf w o b (A.bj.lt hb)⟩
theorem At.other(A:At af F m0 w0 m w S){a:Addr}(hn:∀r,m.aV r≠some a.block)(h0:w0.heap.size≤a.block)(v:Value):At af F m0 w0 m (w.setCell a v) S:=by
 refine⟨⟨A.mv.os,A.mv.tape,A.mv.output,by simpa[World.setCell]using A.mv.size,fun b hb h=>?_,A.mv.old⟩,A.bj.heap fun r b hb=>fQ _ _ _ _ (fun e=>hn r (e▸hb))⟩;rw[fQ _ _ _ _ oX];exact A.mv.keep b hb h
theorem pe.setCell{a:Addr}(h:pe m0 w0 m w)(hb:m.aV r=some a.block)(v:Value):pe m0 w0 m (w.setCell a v):=by
 refine⟨h.os,h.tape,h.output,by simpa[World.setCell]using h.size,fun b ff hn=>?_,h.old⟩;rw[fQ _ _ _ _ (fun e=>?_)]
 ·exact h.keep b ff hn
 ·rcases h.old r _ hb with⟨r0,h0⟩|h0
  ·exact hn r0 (by rw[h0,e])
  ·omega
theorem At.set(A:At af F m0 w0 m w S)(hb:m.aV r=some b)(hr:aj m S' r=(aj m S r).set j v)(ho:∀r',r'≠r→aj m S' r'=aj m S r'):At af F m0 w0 m (w.setCell ⟨b,j,none⟩ v) S':=
 ⟨A.mv.setCell (r:=r) hb v,A.bj.set hb hr ho⟩
theorem At.congr(A:At af F m0 w0 m w S)(h:∀r,aj m S' r=aj m S r):At af F m0 w0 m w S':=⟨A.mv,A.bj.congr h⟩
theorem At.heap(A:At af F m0 w0 m w S)(hB:Below w.heap.size w w'):At af F m0 w0 m w' S:=
 ⟨A.mv.trans ⟨hB.os,hB.tape,hB.output,hB.size,fun b hb _=>hB.block b hb,fun r b h=> .inl ⟨r,h⟩⟩,A.bj.below hB⟩
section
variable(A:At af F m0 w0 m w S)(hl:r.loose=true){rp:bH}{bp c g n:Nat}{p:Nat×Nat}{xs:List Value}(nI:∀q,eI r=some q→q=p)(hp:m.aV rp=some bp)(cM:rp≠r)(hg:w.grownBy w' (m.aV r))(hown:w'.ownsRow af p.1 p.2 (.slice (some ⟨g,0,none⟩) n c) n xs)(bE:m.aV r=some g∨w.heap.size≤g)(jM:aj (m.eG r (some g) c) S' r=xs)(oE:aj (m.eG r (some g) c) S' rp=(aj m S rp).set j (.slice (some ⟨g,0,none⟩) n c))
include A hl nI hp cM hg hown bE jM oE
theorem At.ar7(ho:∀r',r'≠r→r'≠rp→aj (m.eG r (some g) c) S' r'=aj m S r'∨(m.aV r'≠none∧∀b',m.aV r'=some b'→gl w b' (eI r') (m.cap r') (aj (m.eG r (some g) c) S' r'))):At af F m0 w0 (m.eG r (some g) c) (w'.setCell ⟨bp,j,none⟩ (.slice (some ⟨g,0,none⟩) n c)) S':=by
 have qw:∀r' b',r'≠r→m.aV r'=some b'→b'≠g:=by
  intro r' b' h1 h2 e;subst e;rcases bE with h|h
  ·exact h1 (A.bj.inj r' r _ h2 h)
  ·exact aX (A.bj.lt h2) oX
 have rI:∀r' b',r'≠r→m.aV r'=some b'→w'.heap[b']?=w.heap[b']?:=fun r' b' h1 h2=>hg.block b' (A.bj.lt h2) (fun e=>h1 (A.bj.inj r' r _ h2 e.symm))
 obtain⟨yp,rJ⟩:=gl.kg (ty:=eI r) nI hown
 have Yv:pe m w (m.eG r (some g) c) w':=by
  refine⟨hg.os,hg.tape,hg.output,hg.size,fun b hb hn=>hg.block b hb (fun e=>hn r e.symm),fun r' b hb=>?_⟩
  ·by_cases e:r'=r
   ·subst e;rw[Mem.dL]at hb;cases hb;rcases bE with h|h
    ·exact .inl ⟨_,h⟩
    ·exact .inr h
   ·rw[Mem.bN _ _ _ e]at hb;exact .inl ⟨_,hb⟩
 refine⟨(A.mv.trans Yv).setCell (r:=rp) bp3 _,?_⟩;refine⟨fun r1 r2 b' h1 h2=>?_,fun r' b' ff=>?_,fun r' hT=>?_,A.bj.aB.eG hl _ _⟩
 ·by_cases e1:r1=r<;>by_cases e2:r2=r
  ·rw[e1,e2]
  ·subst e1;rw[Mem.dL]at h1;rw[Mem.bN _ _ _ e2]at h2
   cases h1;exact aX rfl (qw r2 _ e2 h2)
  ·subst e2;rw[Mem.dL]at h2;rw[Mem.bN _ _ _ e1]at h1
   cases h2;exact aX rfl (qw r1 _ e1 h1)
  ·exact bg3
 ·by_cases e1:r'=r
  ·subst e1;rw[Mem.dL]at ff
   cases ff;rw[Mem.xM,jM];exact⟨yp,rJ.other (fQ _ _ _ _ (dE (qw rp bp cM hp)))⟩
  ·rw[Mem.bN _ _ _ e1]at ff;rw[Mem.rH _ _ _ e1];by_cases e2:r'=rp
   ·subst e2;obtain rfl:b'=bp:=by rw[hp]at ff;exact(mx ff).symm
    rw[oE];exact⟨(A.bj.lies _ _ hp).1,((A.bj.lies _ _ hp).2.other (rI _ _ e1 hp)).set j _⟩
   ·rcases ho r' e1 e2 with h|h
    ·rw[h];refine⟨(A.bj.lies _ _ ff).1,((A.bj.lies _ _ ff).2.other (rI _ _ e1 ff)).other (fQ _ _ _ _ (A.bj.ne ff hp e2))⟩
    ·exact⟨(A.bj.lies _ _ ff).1,((h.2 b' ff).other (rI _ _ e1 ff)).other (fQ _ _ _ _ (A.bj.ne ff hp e2))⟩
 ·have e1:r'≠r:=fun e=>by rw[e,Mem.dL]at hT;cases hT
  have e2:r'≠rp:=fun e=>by rw[Mem.bN _ _ _ e1,e,hp]at hT;cases hT
  rw[Mem.bN _ _ _ e1]at hT;rcases ho r' e1 e2 with h|h
  ·rw[h];exact A.bj.none_ r' hT
  ·exact aX hT h.1
theorem At.row(ho:∀r',r'≠r→r'≠rp→aj (m.eG r (some g) c) S' r'=aj m S r'):At af F m0 w0 (m.eG r (some g) c) (w'.setCell ⟨bp,j,none⟩ (.slice (some ⟨g,0,none⟩) n c)) S':=
 A.ar7 hl nI hp cM hg hown bE jM oE fun r' h1 h2=> .inl (ho r' h1 h2)
end
theorem At.nil(A:At af F m0 w0 m w S)(hl:r.loose=true){rp:bH}{bp:Nat}(hp:m.aV rp=some bp)(cM:rp≠r)(jM:aj (m.eG r none 0) S' r=[])(oE:aj (m.eG r none 0) S' rp=(aj m S rp).set j v)(ho:∀r',r'≠r→r'≠rp→aj (m.eG r none 0) S' r'=aj m S r'):At af F m0 w0 (m.eG r none 0) (w.setCell ⟨bp,j,none⟩ v) S':=by
 refine⟨(A.mv.trans ⟨rfl,rfl,rfl,Nat.le_refl _,fun _ _ _=>rfl,fun r' b hb=>?_⟩).setCell (r:=rp) bp3 _,A.bj.row hl hp cM (fun g h=>bk0) (fun _=>jM) oE ho⟩;by_cases e:r'=r
 ·subst e;rw[Mem.dL]at hb;cases hb
 ·rw[Mem.bN _ _ _ e]at hb;exact .inl ⟨_,hb⟩
end
abbrev eD(o:cu)(a:Option Addr)(c:Nat):Obj:=.cells #[I o.ai,I o.ch,I o.n,I o.v,.slice a o.cases.length c,B o.dG] 49
abbrev iY(F:Fx)(g:Nat)(o:cu)(a:Option Addr)(n c:Nat):Obj:=.cells #[.pointer (some ⟨F.al,0,none⟩),I g,I o.ai,I o.ch,I o.n,I o.v,.slice a n c,B o.dG] 173
abbrev eX(z:Int):Prop:= -1000000000≤z∧z≤1000000000
abbrev eL(v:Value)(Q:World→Prop):Ending→World→Prop:=fun e w'=>e=.returned v∧Q w'
abbrev ee:=eL (.tuple #[])
abbrev oV:=eL (.bool true)
section
variable{af:Nat}{F:Fx}{w:World}{m:Mem}{S:Wd}(R:bz af F w m S)
include R
theorem bz.pB:F.al<w.heap.size∧F.gs<w.heap.size∧F.al≠F.gs∧F.gs≠F.al:=⟨R.lt R.aB.al,R.lt R.aB.gs,R.ne R.aB.al R.aB.gs (by simp),R.ne R.aB.gs R.aB.al (by simp)⟩
theorem bz.b3X{r1 r2 r3:bH}{a b c:Nat}(h1:m.aV r1=some a)(h2:m.aV r2=some b)(h3:m.aV r3=some c)(k1:r1≠r2:=by simp)(k2:r1≠r3:=by simp)(k3:r2≠r3:=by simp):a<w.heap.size∧b<w.heap.size∧c<w.heap.size∧a≠b∧a≠c∧b≠a∧b≠c∧c≠a∧c≠b:=⟨R.lt h1,R.lt h2,R.lt h3,R.ne h1 h2 k1,R.ne h1 h3 k2,(R.ne h1 h2 k1).symm,R.ne h2 h3 k3,(R.ne h1 h3 k2).symm,(R.ne h2 h3 k3).symm⟩
end
abbrev bR(F:Fx):Value:=.pointer (some ⟨F.al,0,none⟩)
abbrev NC(la:Option Addr)(ln lc:Nat):Array Value:=#[.slice la ln lc,I 0,I 0,I 0,B false,I 0,B false,I (-1),I (-1),I (-1),I 0,I 0,I 0,I (-1),I (-1),I 0,I (-1),I 0,B false,I 0,.slice none 0 0,.slice none 0 0,.slice none 0 0,.slice none 0 0,I 0]
abbrev ZRX:Array Value:=#[I 0,I 0,I 0,.slice none 0 0,.slice none 0 0,.slice none 0 0,.slice none 0 0,.slice none 0 0,I 0,.slice none 0 0,I 0,.slice none 0 0]
open Mach
section
variable{α:Type}{l:List α}
theorem mO{i:Int}{x:α}(h:idx l i=some x):∃j:Nat,i=j∧j<l.length∧l[j]?=some x:=by
 unfold idx at h;split at h
 ·rename_i h0;have:=cA h;exact⟨i.toNat,oX,this,h⟩
 ·cases h
theorem iN{i:Int}(h:¬(0≤i∧i<l.length)):idx l i=none:=by
 unfold idx;split
 ·exact rq oX
 ·rfl
theorem eR{j:Nat}:idx l (j:Int)=l[j]?:=by simp[idx]
theorem RZ{j:Nat}{x:α}(h:j<l.length):Mach.put l (j:Int) x=some (l.set j x):=by simp[Mach.put,h]
end
section
variable{af:Nat}{F:Fx}{w w0:World}{m m0:Mem}{S:Wd}
section
variable(R:bz af F w m S)
include R
theorem bz.cW(q:Nat)(v:Value)(h:(aj m S .al)[q]?=some v):w.cell? ⟨F.al,q,none⟩=some v:=R.cell R.aB.al h
theorem bz.dM:w.cell? ⟨F.al,2,none⟩=some (I S.av):=R.cW 2 _ rfl
theorem bz.eu:w.cell? ⟨F.al,3,none⟩=some (.slice (some ⟨F.gs,0,none⟩) S.gs.length (m.cap .gs)):=by
 rw[←Mem.de R.aB.gs];exact R.cW 3 _ rfl
theorem bz.nJ:w.cell? ⟨F.al,4,none⟩=some (.pointer (some ⟨F.dB,0,none⟩)):=by
 rw[←Mem.lz R.aB.dB];exact R.cW 4 _ rfl
theorem bz.qx:w.cell? ⟨F.al,5,none⟩=some (m.cU .au S.au.length):=R.cW 5 _ rfl
theorem bz.Cv:w.cell? ⟨F.al,6,none⟩=some (m.cU .aO S.aO.length):=R.cW 6 _ rfl
theorem bz.pC:w.cell? ⟨F.al,7,none⟩=some (.pointer (some ⟨F.dY,0,none⟩)):=by
 rw[←Mem.lz R.aB.dY];exact R.cW 7 _ rfl
theorem bz.dR:w.cell? ⟨F.al,8,none⟩=some (.pointer (some ⟨F.aw,0,none⟩)):=by
 rw[←Mem.lz R.aB.aw];exact R.cW 8 _ rfl
theorem bz.ed:w.cell? ⟨F.al,9,none⟩=some (.slice (some ⟨F.ah,0,none⟩) S.ah.length (m.cap .ah)):=by
 rw[←Mem.de R.aB.ah];exact R.cW 9 _ rfl
theorem bz.tf:w.cell? ⟨F.al,10,none⟩=some (.pointer (some ⟨F.Eg,0,none⟩)):=by
 rw[←Mem.lz R.aB.Eg];exact R.cW 10 _ rfl
theorem bz.Us:w.cell? ⟨F.al,11,none⟩=some (.pointer (some ⟨F.gN,0,none⟩)):=by
 rw[←Mem.lz R.aB.gN];exact R.cW 11 _ rfl
theorem bz.Vo:w.cell? ⟨F.al,12,none⟩=some (m.cU .draws S.draws.length):=R.cW 12 _ rfl
theorem bz.NF:w.cell? ⟨F.al,13,none⟩=some (m.cU .done S.done.length):=R.cW 13 _ rfl
theorem bz.sM:w.cell? ⟨F.dY,0,none⟩=some (m.cU .dQ S.aq.length):=R.cell R.aB.dY (j:=0) rfl
theorem bz.Bu:w.cell? ⟨F.dB,0,none⟩=some (.slice (some ⟨F.ax,0,none⟩) S.ax.length (m.cap .ax)):=by
 rw[←Mem.de R.aB.ax];exact R.cell R.aB.dB (j:=0) rfl
theorem bz.xN:w.cell? ⟨F.aw,0,none⟩=some (.slice (some ⟨F.aS,0,none⟩) S.aw.aS.length (m.cap .aS)):=by
 rw[←Mem.de R.aB.aS];exact R.cell R.aB.aw (j:=0) rfl
theorem bz.yq:w.cell? ⟨F.aw,1,none⟩=some (.slice (some ⟨F.bM,0,none⟩) S.aw.bM.length (m.cap .bM)):=by
 rw[←Mem.de R.aB.bM];exact R.cell R.aB.aw (j:=1) rfl
end
theorem wR(m:Mem)(g:Nat)(x:bI):(gk m g x).length=25:=rfl
section
variable(R:bz af F w m S){j:Nat}
include R
theorem bz.g{x:bI}(hx:S.gs[j]?=some x)(q:Nat)(v:Value)(hq:(gk m j x)[q]?=some v):w.cell? ⟨F.gs,j*25+q,none⟩=some v:=by
 have h1:q<25:=by rw[←wR m j x];exact(cA hq)
 have h:=fq (f:=gk m) (k:=25) (fun _ _=>rfl) S.gs 0 j q x hx h1;rw[Nat.zero_add,hq]at h;exact R.cell R.aB.gs h
theorem bz.g0{x:bI}(hx:S.gs[j]?=some x):w.cell? ⟨F.gs,j*25,none⟩=some (m.cU (.ops j) x.ops.length):=R.g hx 0 _ rfl
theorem bz.s{x:gn}(hx:S.ah[j]?=some x)(q:Nat)(v:Value)(hq:(mg j x)[q]?=some v):w.cell? ⟨F.ah,j*7+q,none⟩=some v:=by
 have h1:q<7:=cA hq;have h:=fq (f:=mg) (k:=7) (fun _ _=>rfl) S.ah 0 j q x hx h1;rw[Nat.zero_add,hq]at h;exact R.cell R.aB.ah h
theorem bz.s0{x:gn}(hx:S.ah[j]?=some x):w.cell? ⟨F.ah,j*7,none⟩=some (B x.cK):=R.s hx 0 _ rfl
theorem bz.one{st:Int}{tk:Bool}(h:S.ax[j]?=some (st,tk)):w.cell? ⟨F.ax,j*2,none⟩=some (I st)∧w.cell? ⟨F.ax,j*2+1,none⟩=some (B tk):=by
 have h0:=fq (f:=ry) (k:=2) (fun _ _=>rfl) S.ax 0 j 0 _ h oX;have h1:=fq (f:=ry) (k:=2) (fun _ _=>rfl) S.ax 0 j 1 _ h oX;exact⟨R.cell R.aB.ax h0,R.cell R.aB.ax h1⟩
theorem bz.thing{x:nf}(h:S.aw.aS[j]?=some x):w.cell? ⟨F.aS,j*3,none⟩=some (I x.pX)∧w.cell? ⟨F.aS,j*3+1,none⟩=some (I x.behind)∧w.cell? ⟨F.aS,j*3+2,none⟩=some (I x.ahead):=by
 have h0:=fun q hq=>fq (f:=oD) (k:=3) (fun _ _=>rfl) S.aw.aS 0 j q _ h hq
 exact⟨R.cell R.aB.aS (h0 0 oX),R.cell R.aB.aS (h0 1 oX),R.cell R.aB.aS (h0 2 oX)⟩
theorem bz.line{x:Ct}(h:S.aw.bM[j]?=some x):w.cell? ⟨F.bM,j*3,none⟩=some (I x.first)∧w.cell? ⟨F.bM,j*3+1,none⟩=some (I x.last)∧w.cell? ⟨F.bM,j*3+2,none⟩=some (I x.count):=by
 have h0:=fun q hq=>fq (f:=rG) (k:=3) (fun _ _=>rfl) S.aw.bM 0 j q _ h hq
 exact⟨R.cell R.aB.bM (h0 0 oX),R.cell R.aB.bM (h0 1 oX),R.cell R.aB.bM (h0 2 oX)⟩
end
end
theorem tE{P:Program}(w:World)(b o:Nat)(ty:TypeId)(cells:Array Value)(hi:(P.info? ty).map (·.size)=some cells.size)(hc:∀j,j<cells.size→(w.cell? ⟨b,o+j,none⟩).isSome=true)(hf:∀j,j<cells.size→w.frozen? ⟨b,o+j,none⟩=false)(h1:cells.all (·.oneCell')=true):(storeVar ty ⟨b,o,none⟩ (.agg cells)).run P w=.ok () (w.setCells b o cells.toList):=by
 have:=run_storeCells_cells (P:=P) b o cells.toList 0 w (by simpa using hc) (by simpa using hf) (fun v hv=>(Array.all_eq_true_iff_forall_mem.1 h1) v (by simpa using hv))
 cases hq:P.info? ty with
 |none=>simp[hq]at hi
 |some i=>
  have hs:cells.size=i.size:=by simp[hq]at hi;omega
  simp[storeVar,sizeOf,typeInfo,hq,Value.cells,hs,this]
theorem cB{P:Program}{ops:Array Oper}{rest:List Oper}{o:Oper}{a:Act}{w:World}{Q:Exit→Act→World→Prop}(nX:o.guard=none)(ty:TypeId)(x y:Operand)(ho:o.op=.store ty x y)(b off:Nat)(cells:Array Value)(hx:a.eval x=.pointer (some ⟨b,off,none⟩))(hy:a.eval y=.agg cells)(hi:(P.info? ty).map (·.size)=some cells.size)(hc:∀j,j<cells.size→(w.cell? ⟨b,off+j,none⟩).isSome=true)(hf:∀j,j<cells.size→w.frozen? ⟨b,off+j,none⟩=false)(h1:cells.all (·.oneCell')=true)(h:wpList P ops Q rest (a.put o.dst undef) (w.setCells b off cells.toList)):wpList P ops Q (o::rest) a w:=by
 refine wpList_plain nX fun _ hK=>?_
 unfold Oper.wp execOp;simp only[ho,hx,hy,Instr.storeAt,Instr.sureAddr,Sem.run_bind,Sem.run_pure,Result.andThen_ok,tE w b off ty cells hi hc hf h1];exact hK _ _ h
theorem getElem?_set_self'{α:Type}{l:List α}{j:Nat}{x y:α}(h:l[j]?=some x):(l.set j y)[j]?=some y:=by
 have:=cA h;simp[sW,this]
theorem az{S:Wd}{j:Nat}{x y:bI}(h:S.gs[j]?=some x):(S.ay j y).gs[j]?=some y:=getElem?_set_self' h
theorem Cw{S:Wd}{j k:Nat}{y:bI}(h:j≠k):(S.ay j y).gs[k]?=S.gs[k]?:=by simp[Wd.ay,sW,h]
theorem NG{S:Wd}{j:Nat}{x y:gn}(h:S.ah[j]?=some x):(S.cJ j y).ah[j]?=some y:=getElem?_set_self' h
theorem aA{S:Wd}{j:Nat}{x y:bI}:(S.ay j x).ay j y=S.ay j y:=by simp[Wd.ay,my]
section
variable{af:Nat}{F:Fx}{w w0:World}{m m0:Mem}{S:Wd}
theorem At.eq{S':Wd}(A:At af F m0 w0 m w S)(h:S=S'):At af F m0 w0 m w S':=h▸A
theorem At.aI{w':World}(A:At af F m0 w0 m w S)(h1:w'.heap=w.heap:=by exact rfl)(h2:w'.os=w.os:=by exact rfl)(h3:w'.tape=w.tape:=by exact rfl)(h4:w'.output=w.output:=by exact rfl):At af F m0 w0 m w' S:=
 ⟨⟨h2.trans A.mv.os,h3.trans A.mv.tape,h4.trans A.mv.output,by rw[h1];exact A.mv.size,fun b hb hn=>by rw[h1];exact A.mv.keep b hb hn,A.mv.old⟩,A.bj.heap fun _ _ _=>by rw[h1]⟩
theorem At.drewN(A:At af F m0 w0 m w S)(n:Nat):At af F m0 w0 m (w.drewN n) S:=A.aI
theorem bz.shape(R:bz af F w m S){r:bH}{n:Nat}(h:aj m S r=[]→n=0):∃a c,m.cU r n=.slice a n c:=by
 cases hb:m.aV r with
 |none=>rw[h (R.none_ r hb)];exact⟨none,0,Mem.j6 hb _⟩
 |some b=>exact⟨_,_,Mem.de hb _⟩
theorem bz.eS(R:bz af F w m S):af≤w.heap.size:=jm (R.ge R.aB.al) (Nat.le_of_lt (R.lt R.aB.al))
theorem yr{w w':World}{row:Option Nat}(hg:w.grownBy w' row){b j:Nat}{v:Value}(h:w.cell? ⟨b,j,none⟩=some v)(cM:row≠some b):w'.cell? ⟨b,j,none⟩=some v:=
 hg.cell h (fun e=>cM e.symm)
theorem uI{w w':World}{row:Option Nat}(hg:w.grownBy w' row){b j:Nat}(h:w.frozen? ⟨b,j,none⟩=false)(dD:b<w.heap.size)(cM:row≠some b):w'.frozen? ⟨b,j,none⟩=false:=by
 rw[xp (w:=w) (w':=w') (a:=⟨b,j,none⟩) (hg.block b dD (fun e=>cM e.symm))];exact h
theorem ou{w w3:World}{o:Obj}{af e size n:Nat}{v:Value}{xs:List Value}(h:w.ownsRow af e size v n xs)(hW:w3.heap=(w.alloc o).heap):w3.ownsRow af e size v n xs:=by
 have h2:=h.alloc o;unfold World.ownsRow at h2 ⊢;rw[hW];exact h2
section
variable{w2 W3 w3:World}{o:Obj}{row:Option Nat}{b j:Nat}
theorem fW{v:Value}(hg:W3.grownBy w3 row)(h:w2.cell? ⟨b,j,none⟩=some v)(hW:W3.heap=(w2.alloc o).heap)(cM:row≠some b):w3.cell? ⟨b,j,none⟩=some v:=by
 have dD:=xo w2 _ h;refine yr hg ?_ cM;rw[kZ (w:=w2) (w':=W3) (a:=⟨b,j,none⟩) (by rw[hW];exact gf w2 o b dD)];exact h
theorem fN(hg:W3.grownBy w3 row)(h:w2.frozen? ⟨b,j,none⟩=false)(dD:b<w2.heap.size)(hW:W3.heap=(w2.alloc o).heap)(cM:row≠some b):w3.frozen? ⟨b,j,none⟩=false:=by
 refine uI hg ?_ (by rw[hW];show b<(w2.heap.push o).size;rw[Array.size_push];omega) cM;rw[xp (w:=w2) (w':=W3) (a:=⟨b,j,none⟩) (by rw[hW];exact gf w2 o b dD)];exact h
end
theorem bz.NH(R:bz af F w m S){r:bH}{p:Nat×Nat}{b:Nat}(nI:eI r=some p)(h0:0<p.2)(hb:m.aV r=some b):(aj m S r).length≤m.cap r*p.2:=by
 obtain⟨_,arr,t,h1,h2,h3,h4⟩:=R.lies r b hb;obtain⟨_,h5,_⟩:=h4 p nI;omega
theorem bz.jv(R:bz af F w m S){r r':bH}{b:Nat}(hb:m.aV r'=some b)(h:r≠r'):m.aV r≠some b:=fun e=>h (R.inj r r' b e hb)
theorem At.g(A:At af F m0 w0 m w S){j:Nat}{x:bI}(hx:S.gs[j]?=some x)(y:bI){q:Nat}{v:Value}(hq:q<25:=by omega)(hy:gk m j y=(gk m j x).set q v:=by exact rfl)(h1:y.ops=x.ops:=by exact rfl)(h2:y.aH=x.aH:=by exact rfl)(h3:y.aq=x.aq:=by exact rfl)(h4:y.bA=x.bA:=by exact rfl)(h5:y.wakes=x.wakes:=by exact rfl):At af F m0 w0 m (w.setCell ⟨F.gs,j*25+q,none⟩ v) (S.ay j y):=by
 refine A.set A.bj.aB.gs (oC (f:=gk m) (k:=25) (fun _ _=>rfl) S.gs 0 j q x y v hx hq (by simpa using hy)) ?_;intro r' hT
 have hs:∀g,(S.gs.set j y)[g]?=if g=j then some y else S.gs[g]?:=by
  intro g;by_cases e:g=j
  ·subst e;rw[aF rfl];exact getElem?_set_self' hx
  ·rw[aE e,oA (dE e)]
 cases r'<;>first|exact aX rfl hT|rfl|(simp only[aj,Wd.ay,kI];done)|skip
 all_goals
  simp only[aj,Wd.ay,hs];first
  |(rename_i k;by_cases e:k=j
    ·subst e;simp only[dt,hx,h1,h2,h3,h4,h5];done
    ·simp only[aE e];done)
  |(rename_i k i;by_cases e:k=j
    ·subst e;simp only[dt,hx,h1,h2,h3,h4,h5];done
    ·simp only[aE e];done)
section
variable(A:At af F m0 w0 m w S)
include A
theorem At.s{j:Nat}{x:gn}(hx:S.ah[j]?=some x)(y:gn){q:Nat}{v:Value}(hq:q<7)(hy:mg j y=(mg j x).set q v):At af F m0 w0 m (w.setCell ⟨F.ah,j*7+q,none⟩ v) (S.cJ j y):=by
 refine A.set A.bj.aB.ah (oC (f:=mg) (k:=7) (fun _ _=>rfl) S.ah 0 j q x y v hx hq (by simpa using hy)) ?_;intro r' hT
 cases r'<;>first|exact aX rfl hT|rfl|(simp only[aj,Wd.cJ,kI];done)
theorem At.one{j q:Nat}{x:Int×Bool}(h:S.ax[j]?=some x)(y:Int×Bool)(hq:q<2){v:Value}(hy:ry 0 y=(ry 0 x).set q v):At af F m0 w0 m (w.setCell ⟨F.ax,j*2+q,none⟩ v) {S with ax:=S.ax.set j y}:=by
 refine A.set A.bj.aB.ax (oC (f:=ry) (k:=2) (fun _ _=>rfl) S.ax 0 j q x y v h hq (by simpa[ry]using hy)) ?_;exact aZ2
theorem At.thing{j q:Nat}{x:nf}(h:S.aw.aS[j]?=some x)(y:nf)(hq:q<3){v:Value}(hy:oD 0 y=(oD 0 x).set q v):At af F m0 w0 m (w.setCell ⟨F.aS,j*3+q,none⟩ v) {S with aw:=S.aw.fJ j y}:=by
 refine A.set A.bj.aB.aS (oC (f:=oD) (k:=3) (fun _ _=>rfl) S.aw.aS 0 j q x y v h hq (by simpa[oD]using hy)) ?_;intro r' hT
 cases r'<;>first|exact aX rfl hT|rfl|(simp only[aj,bf.fJ,kI];done)
theorem At.line{j q:Nat}{x:Ct}(h:S.aw.bM[j]?=some x)(y:Ct)(hq:q<3){v:Value}(hy:rG 0 y=(rG 0 x).set q v):At af F m0 w0 m (w.setCell ⟨F.bM,j*3+q,none⟩ v) {S with aw:=S.aw.fe j y}:=by
 refine A.set A.bj.aB.bM (oC (f:=rG) (k:=3) (fun _ _=>rfl) S.aw.bM 0 j q x y v h hq (by simpa[rG]using hy)) ?_;intro r' hT
 cases r'<;>first|exact aX rfl hT|rfl|(simp only[aj,bf.fe,kI];done)
end
theorem At.av(A:At af F m0 w0 m w S)(n:Int):At af F m0 w0 m (w.setCell ⟨F.al,2,none⟩ (I n)) {S with av:=n}:=by
 refine A.set A.bj.aB.al rfl ?_;exact bf2
end
section
variable{af:Nat}{F:Fx}{w:World}{m:Mem}{S:Wd}(R:bz af F w m S){j:Nat}
include R
theorem bz.ps{x:bI}(hx:S.gs[j]?=some x)(q:Nat)(v:Value)(hq:(gk m j x)[q]?=some v):w.cell? ⟨F.gs,j*25+q,none⟩=some v∧w.frozen? ⟨F.gs,j*25+q,none⟩=false:=⟨R.g hx q v hq,R.frozen R.aB.gs _⟩
theorem bz.ssX{x:gn}(hx:S.ah[j]?=some x)(q:Nat)(v:Value)(hq:(mg j x)[q]?=some v):w.cell? ⟨F.ah,j*7+q,none⟩=some v∧w.frozen? ⟨F.ah,j*7+q,none⟩=false:=⟨R.s hx q v hq,R.frozen R.aB.ah _⟩
end
theorem iZ{α:Type}{f f':Nat→α→List Value}{k:Nat}(hk:∀i x,(f i x).length=k):∀(l:List α) (i g j:Nat) (x y:α) (v:Value),l[g]?=some x→j<k→(∀n z,n≠i+g→f' n z=f n z)→f' (i+g) y=(f (i+g) x).set j v→bT f' i (l.set g y)=(bT f i l).set (g*k+j) v
 | [],_,_,_,_,_,_,h,_,_,_=>bj5
 |z::l,i,0,j,x,y,v,h,hj,ho,hf=>by simp at h;subst h;simp only[List.set_cons_zero,bT,Nat.zero_mul,Nat.zero_add];rw[List.set_append_left _ _ (by rw[hk];exact hj)];rw[Nat.add_zero]at hf;rw[hf,iI (f:=f') (f':=f) l (i+1) (fun n x _=>ho _ _ oX)]
 |z::l,i,g+1,j,x,y,v,h,hj,ho,hf=>by simp only[List.set_cons_succ,bT];rw[List.set_append_right _ _ bt4,hk];rw[show(g+1)*k+j-k=g*k+j by rw[Nat.succ_mul];omega];rw[iZ hk l (i+1) g j x y v bj3 hj (fun n z hn=>ho n z oX) bp9,ho i z oX]
section
variable{af:Nat}{F:Fx}{w w0 w':World}{m m0:Mem}{S:Wd}
theorem cX{S:Wd}{i:Nat}{x y:bI}(h:S.gs[i]?=some x)(g:Nat):(S.gs.set i y)[g]?=if g=i then some y else S.gs[g]?:=by
 exact bf9
theorem nj(m:Mem){j k:Nat}{r:bH}(hr:r=.aH j∨r=.aq j∨r=.bA j∨r=.wakes j)(o:Option Nat)(c:Nat)(x:bI)(h:k≠j):gk (m.eG r o c) k x=gk m k x:=by
 have cM:bH.ops k≠r:=by rcases hr with rfl|rfl|rfl|rfl<;>simp
 rcases hr with rfl|rfl|rfl|rfl
 all_goals
  simp only[gk,Mem.qv _ _ _ _ cM,Mem.cU,Mem.eG];simp[h]
theorem iz{j:Nat}{x y:bI}{r:bH}(hr:r=.aH j∨r=.aq j∨r=.bA j∨r=.wakes j)(hx:S.gs[j]?=some x)(o:Option Nat)(c:Nat)(h1:y.ops=x.ops)(h2:y.aH=x.aH∨r=.aH j)(h3:y.aq=x.aq∨r=.aq j)(h4:y.bA=x.bA∨r=.bA j)(h5:y.wakes=x.wakes∨r=.wakes j):∀r',r'≠r→r'≠ .gs→aj (m.eG r o c) (S.ay j y) r'=aj m S r':=by
 rcases hr with rfl|rfl|rfl|rfl
 all_goals
  intro r' h0 hg;simp at h2 h3 h4 h5
  cases r'<;>first|exact aX rfl hg|rfl|(simp only[aj,Wd.ay,kI,Mem.cU,Mem.ptr,Mem.eG,reduceCtorEq,dF];done)|skip
  all_goals
   first
   |(simp only[aj,Wd.ay,kI,je,Mem.cU,Mem.eG,reduceCtorEq,dF];done)
   |(rename_i k;simp only[aj,Wd.ay,cX hx];by_cases e:k=j
     ·subst e;first|exact aX rfl h0|(simp[hx,h1,h2,h3,h4,h5,Cu,Mem.cU,Mem.eG];done)
     ·simp[e,Cu,Mem.cU,Mem.eG];done)
   |(rename_i k;simp only[aj,Wd.ay,cX hx];by_cases e:k=j
     ·subst e;first|exact aX rfl h0|(simp only[dt,hx,h1,h2,h3,h4,h5];done)|(simp only[dt,hx,h1];try(apply iI;intros;simp[Cu,Mem.cU,Mem.eG]))
     ·simp only[aE e]<;>(split<;>first|rfl|(apply iI;intros;simp[Cu,Mem.cU,Mem.eG])))
   |(rename_i k i;simp only[aj,Wd.ay,cX hx];by_cases e:k=j
     ·subst e;simp only[dt,hx,h1]
     ·simp only[aE e])
section
variable(A:At af F m0 w0 m w S){j:Nat}{x:bI}(hx:S.gs[j]?=some x)
include A hx
theorem At.Ez:At af F m0 w0 (m.eG (.aH j) none 0) (w.setCell ⟨F.gs,j*25+20,none⟩ (.slice none 0 0)) (S.ay j {x with aH:=[]}):=by
 refine A.nil rfl A.bj.aB.gs sX ?_ ?_ (iz (.inl rfl) hx none 0 rfl sX sX sX sX)
 ·simp[aj,Wd.ay,cX hx]
 ·exact bi4
theorem At.EA:At af F m0 w0 (m.eG (.aq j) none 0) (w.setCell ⟨F.gs,j*25+21,none⟩ (.slice none 0 0)) (S.ay j {x with aq:=[]}):=by
 refine A.nil rfl A.bj.aB.gs sX ?_ ?_ (iz (.inr (.inl rfl)) hx none 0 rfl sX sX sX sX)
 ·simp[aj,Wd.ay,cX hx]
 ·exact bi2
theorem At.Hg:At af F m0 w0 (m.eG (.bA j) none 0) (w.setCell ⟨F.gs,j*25+22,none⟩ (.slice none 0 0)) (S.ay j {x with bA:=[]}):=by
 refine A.nil rfl A.bj.aB.gs sX ?_ ?_ (iz (.inr (.inr (.inl rfl))) hx none 0 rfl sX sX sX sX)
 ·simp[aj,Wd.ay,cX hx]
 ·exact bi0
theorem At.Vp{g c:Nat}{l:List Int}(hg:w.grownBy w' (m.aV (.bA j)))(hown:w'.ownsRow af 3 1 (.slice (some ⟨g,0,none⟩) l.length c) l.length (l.map I))(bE:m.aV (.bA j)=some g∨w.heap.size≤g):At af F m0 w0 (m.eG (.bA j) (some g) c) (w'.setCell ⟨F.gs,j*25+22,none⟩ (.slice (some ⟨g,0,none⟩) l.length c)) (S.ay j {x with bA:=l}):=by
 refine A.row (p:=(3,1)) rfl (by intro q hq;simp[eI]at hq<;>exact hq.symm) A.bj.aB.gs sX hg hown bE ?_ ?_ (iz (.inr (.inr (.inl rfl))) hx _ _ rfl sX sX sX sX)
 ·simp[aj,Wd.ay,cX hx]
 ·exact bi0
theorem At.EB:At af F m0 w0 (m.eG (.wakes j) none 0) (w.setCell ⟨F.gs,j*25+23,none⟩ (.slice none 0 0)) (S.ay j {x with wakes:=[]}):=by
 refine A.nil rfl A.bj.aB.gs sX ?_ ?_ (iz (.inr (.inr (.inr rfl))) hx none 0 rfl sX sX sX sX)
 ·simp[aj,Wd.ay,cX hx]
 ·exact bh9
theorem At.EC{g c:Nat}{l:List Int}(hg:w.grownBy w' (m.aV (.wakes j)))(hown:w'.ownsRow af 3 1 (.slice (some ⟨g,0,none⟩) l.length c) l.length (l.map I))(bE:m.aV (.wakes j)=some g∨w.heap.size≤g):At af F m0 w0 (m.eG (.wakes j) (some g) c) (w'.setCell ⟨F.gs,j*25+23,none⟩ (.slice (some ⟨g,0,none⟩) l.length c)) (S.ay j {x with wakes:=l}):=by
 refine A.row (p:=(3,1)) rfl (by intro q hq;simp[eI]at hq<;>exact hq.symm) A.bj.aB.gs sX hg hown bE ?_ ?_ (iz (.inr (.inr (.inr rfl))) hx _ _ rfl sX sX sX sX)
 ·simp[aj,Wd.ay,cX hx]
 ·exact bh9
theorem At.clear:∃m',At af F m0 w0 m' (w.setCells F.gs (j*25) [m.cU (.ops j) x.ops.length,I x.at_,I x.ae,I x.bU,B x.token,I 0,B false,I (-1),I (-1),I (-1),I 0,I 0,I 0,I (-1),I (-1),I 0,I (-1),I 0,B false,I 0,.slice none 0 0,.slice none 0 0,.slice none 0 0,.slice none 0 0,I 0]) (S.ay j (bu x)):=by
 have A0:=A.g hx x (q:=0) (v:=m.cU (.ops j) x.ops.length);have A1:=A0.g (az hx) x (q:=1) (v:=I x.at_);rw[aA]at A1;have A2:=A1.g (az hx) x (q:=2) (v:=I x.ae);rw[aA]at A2;have A3:=A2.g (az hx) x (q:=3) (v:=I x.bU);rw[aA]at A3;have A4:=A3.g (az hx) x (q:=4) (v:=B x.token);rw[aA]at A4;have A5:=A4.g (az hx) {x with call:=0} (q:=5) (v:=I 0);rw[aA]at A5;have A6:=A5.g (az hx) {x with call:=0,bk:=false} (q:=6) (v:=B false);rw[aA]at A6;have A7:=A6.g (az hx) {x with call:=0,bk:=false,aN:= -1} (q:=7) (v:=I (-1));rw[aA]at A7;have A8:=A7.g (az hx) {x with call:=0,bk:=false,aN:= -1,bY:= -1} (q:=8) (v:=I (-1));rw[aA]at A8;have A9:=A8.g (az hx) {x with call:=0,bk:=false,aN:= -1,bY:= -1,br:= -1} (q:=9) (v:=I (-1));rw[aA]at A9;have A10:=A9.g (az hx) {x with call:=0,bk:=false,aN:= -1,bY:= -1,br:= -1,t:=0} (q:=10) (v:=I 0);rw[aA]at A10;have A11:=A10.g (az hx) {x with call:=0,bk:=false,aN:= -1,bY:= -1,br:= -1,t:=0,bJ:=0} (q:=11) (v:=I 0);rw[aA]at A11;have A12:=A11.g (az hx) {x with call:=0,bk:=false,aN:= -1,bY:= -1,br:= -1,t:=0,bJ:=0,point:=0} (q:=12) (v:=I 0);rw[aA]at A12;have A13:=A12.g (az hx) {x with call:=0,bk:=false,aN:= -1,bY:= -1,br:= -1,t:=0,bJ:=0,point:=0,bF:= -1} (q:=13) (v:=I (-1));rw[aA]at A13;have A14:=A13.g (az hx) {x with call:=0,bk:=false,aN:= -1,bY:= -1,br:= -1,t:=0,bJ:=0,point:=0,bF:= -1,fire:= -1} (q:=14) (v:=I (-1));rw[aA]at A14;have A15:=A14.g (az hx) {x with call:=0,bk:=false,aN:= -1,bY:= -1,br:= -1,t:=0,bJ:=0,point:=0,bF:= -1,fire:= -1,res:={x.res with aJ:=0}} (q:=15) (v:=I 0);rw[aA]at A15;have A16:=A15.g (az hx) {x with call:=0,bk:=false,aN:= -1,bY:= -1,br:= -1,t:=0,bJ:=0,point:=0,bF:= -1,fire:= -1,res:={x.res with aJ:=0,case:= -1}} (q:=16) (v:=I (-1));rw[aA]at A16;have A17:=A16.g (az hx) {x with call:=0,bk:=false,aN:= -1,bY:= -1,br:= -1,t:=0,bJ:=0,point:=0,bF:= -1,fire:= -1,res:={x.res with aJ:=0,case:= -1,v:=0}} (q:=17) (v:=I 0);rw[aA]at A17;have A18:=A17.g (az hx) {x with call:=0,bk:=false,aN:= -1,bY:= -1,br:= -1,t:=0,bJ:=0,point:=0,bF:= -1,fire:= -1,res:={x.res with aJ:=0,case:= -1,v:=0,ok:=false}} (q:=18) (v:=B false);rw[aA]at A18;have A19:=A18.g (az hx) {x with call:=0,bk:=false,aN:= -1,bY:= -1,br:= -1,t:=0,bJ:=0,point:=0,bF:= -1,fire:= -1,res:={case:= -1}} (q:=19) (v:=I 0);rw[aA]at A19;have A20:=A19.Ez (x:={x with call:=0,bk:=false,aN:= -1,bY:= -1,br:= -1,t:=0,bJ:=0,point:=0,bF:= -1,fire:= -1,res:={case:= -1}}) (az hx);rw[aA]at A20;have A21:=A20.EA (x:={x with call:=0,bk:=false,aN:= -1,bY:= -1,br:= -1,t:=0,bJ:=0,point:=0,bF:= -1,fire:= -1,res:={case:= -1},aH:=[]}) (az hx);rw[aA]at A21;have A22:=A21.Hg (x:={x with call:=0,bk:=false,aN:= -1,bY:= -1,br:= -1,t:=0,bJ:=0,point:=0,bF:= -1,fire:= -1,res:={case:= -1},aH:=[],aq:=[]}) (az hx);rw[aA]at A22;have A23:=A22.EB (x:={x with call:=0,bk:=false,aN:= -1,bY:= -1,br:= -1,t:=0,bJ:=0,point:=0,bF:= -1,fire:= -1,res:={case:= -1},aH:=[],aq:=[],bA:=[]}) (az hx);rw[aA]at A23;have A24:=A23.g (az hx) (bu x) (q:=24) (v:=I 0);rw[aA]at A24;have e:w.setCells F.gs (j*25) [m.cU (.ops j) x.ops.length,I x.at_,I x.ae,I x.bU,B x.token,I 0,B false,I (-1),I (-1),I (-1),I 0,I 0,I 0,I (-1),I (-1),I 0,I (-1),I 0,B false,I 0,.slice none 0 0,.slice none 0 0,.slice none 0 0,.slice none 0 0,I 0]=(((((((((((((((((((((((((w.setCell ⟨F.gs,j*25,none⟩ (m.cU (.ops j) x.ops.length)).setCell ⟨F.gs,j*25+1,none⟩ (I x.at_)).setCell ⟨F.gs,j*25+2,none⟩ (I x.ae)).setCell ⟨F.gs,j*25+3,none⟩ (I x.bU)).setCell ⟨F.gs,j*25+4,none⟩ (B x.token)).setCell ⟨F.gs,j*25+5,none⟩ (I 0)).setCell ⟨F.gs,j*25+6,none⟩ (B false)).setCell ⟨F.gs,j*25+7,none⟩ (I (-1))).setCell ⟨F.gs,j*25+8,none⟩ (I (-1))).setCell ⟨F.gs,j*25+9,none⟩ (I (-1))).setCell ⟨F.gs,j*25+10,none⟩ (I 0)).setCell ⟨F.gs,j*25+11,none⟩ (I 0)).setCell ⟨F.gs,j*25+12,none⟩ (I 0)).setCell ⟨F.gs,j*25+13,none⟩ (I (-1))).setCell ⟨F.gs,j*25+14,none⟩ (I (-1))).setCell ⟨F.gs,j*25+15,none⟩ (I 0)).setCell ⟨F.gs,j*25+16,none⟩ (I (-1))).setCell ⟨F.gs,j*25+17,none⟩ (I 0)).setCell ⟨F.gs,j*25+18,none⟩ (B false)).setCell ⟨F.gs,j*25+19,none⟩ (I 0)).setCell ⟨F.gs,j*25+20,none⟩ (.slice none 0 0)).setCell ⟨F.gs,j*25+21,none⟩ (.slice none 0 0)).setCell ⟨F.gs,j*25+22,none⟩ (.slice none 0 0)).setCell ⟨F.gs,j*25+23,none⟩ (.slice none 0 0)).setCell ⟨F.gs,j*25+24,none⟩ (I 0)):=by simp only[World.setCells,Nat.add_assoc,Nat.reduceAdd]
 rw[e];exact⟨_,A24⟩
end
end
open Go.Proofs.Tryz
def Rd(k:IntKind)(w:World)(ao:Option Addr)(zs:List Int):Prop:=
 zs.length≤9223372036854775807∧(0<zs.length→∃b off,ao=some ⟨b,off,none⟩∧∀j,j<zs.length→w.cell? ⟨b,off+j,none⟩=some (.int k (zs.getD j 0)))
section
variable{k:IntKind}{w:World}{ao:Option Addr}{zs:List Int}(h:Rd k w ao zs)
include h
theorem Rd.at(i:Nat)(hi:i<zs.length):∃b off,ao=some ⟨b,off,none⟩∧w.cell? ⟨b,off+i,none⟩=some (.int k (zs.getD i 0)):=by
 obtain⟨b,off,e,h⟩:=h.2 oX;exact⟨b,off,e,h i hi⟩
theorem Rd.len:zs.length≤9223372036854775807:=h.1
end
theorem Rd.fU{k:IntKind}{w w':World}{ao:Option Addr}{zs:List Int}(h:Rd k w ao zs)(hc:∀a v,w.cell? a=some v→w'.cell? a=some v):Rd k w' ao zs:=by
 refine⟨h.1,fun h0=>?_⟩;obtain⟨b,off,e,h⟩:=h.2 h0;exact⟨b,off,e,fun j hj=>hc _ _ (h j hj)⟩
theorem Rd.drewN{k:IntKind}{w:World}{ao:Option Addr}{zs:List Int}(h:Rd k w ao zs)(q:Nat):Rd k (w.drewN q) ao zs:=h
theorem Rd.below{k:IntKind}{w w':World}{B:Nat}{ao:Option Addr}{zs:List Int}(h:Rd k w ao zs)(hb:Below B w w')(hB:w.heap.size≤B):Rd k w' ao zs:=by
 exact bb7
theorem below_drewN{B:Nat}{a w:World}(h:Below B a w)(q:Nat):Below B a (w.drewN q):=⟨h.os,h.tape,h.output,h.size,h.block⟩
theorem named(x:Int):∃y,Hid (y=x):=⟨x,rfl⟩
def iO(l:List Int)(i j:Nat):List Int:=(l.set i (l.getD j 0)).set j (l.getD i 0)
theorem lB(l:List Int)(i j:Nat):(iO l i j).length=l.length:=by simp[iO]
theorem qy(l:List Int)(i j x:Nat)(hi:i<l.length)(hj:j<l.length):(iO l i j).getD x 0=if x=j then l.getD i 0 else if x=i then l.getD j 0 else l.getD x 0:=by
 simp only[iO,yk,sW,kI];by_cases h1:x=j
 ·subst h1;simp[hj]
 ·have Vq:¬j=x:=fun e=>h1 e.symm
  by_cases h2:x=i
  ·subst h2;simp[hi,h1,Vq]
  ·have Xt:¬i=x:=fun e=>h2 e.symm
   simp[h1,Vq,h2,Xt]
theorem tF(l:List Int)(i j:Nat)(hi:i<l.length)(hj:j<l.length):(iO l i j).Perm l:=by
 rw[List.perm_iff_count];intro b;have ei:l.getD i 0=l[i]:=by simp[List.getD,hi]
 have ej:l.getD j 0=l[j]:=bt8
 unfold iO;rw[ei,ej];by_cases K0:i=j
 ·subst K0;simp
 ·have Vr:j<(l.set i l[j]).length:=by simpa using hj
  rw[List.count_set Vr,List.count_set hi];have e2:(l.set i l[j])[j]=l[j]:=by rw[List.getElem_set];simp[K0]
  rw[e2];have oF:l[i]=b→1≤List.count b l:=fun h=>List.count_pos_iff.2 (h▸List.getElem_mem hi)
  have key:∀(p q:Bool) (n:Nat),(p=true→1≤n)→(n-(if p=true then 1 else 0)+(if q=true then 1 else 0))-(if q=true then 1 else 0)+(if p=true then 1 else 0)=n:=by
   intro p q n h
   cases p<;>cases q<;>simp at h ⊢<;>omega
  exact key _ _ _ (fun h=>oF bj3)
def iP(l:List Int)(m lo:Nat):Prop:=∀c,c<m→1≤c→lo≤(c-1) / 2→l.getD c 0≤l.getD ((c-1) / 2) 0
def vF(l:List Int)(m lo k:Nat):Prop:=
 (∀c,c<m→1≤c→lo≤(c-1) / 2→(c-1) / 2≠k→l.getD c 0≤l.getD ((c-1) / 2) 0)∧
 (1≤k→lo≤(k-1) / 2→∀c,c<m→1≤c→(c-1) / 2=k→l.getD c 0≤l.getD ((k-1) / 2) 0)
structure yt(m:Nat)(l l':List Int):Prop where
 len:l'.length=l.length
 perm:l'.Perm l
 NI:∀x,m≤x→l'.getD x 0=l.getD x 0
 top:∀u,(∀x,x<m→l.getD x 0≤u)→∀x,x<m→l'.getD x 0≤u
theorem yt.refl(m:Nat)(l:List Int):yt m l l:=⟨rfl,.refl _,fun _ _=>rfl,fun _ h=>h⟩
theorem yt.trans{m:Nat}{a b c:List Int}(h:yt m a b)(k:yt m b c):yt m a c:=
 ⟨k.len.trans h.len,k.perm.trans h.perm,fun x hx=>(k.NI x hx).trans (h.NI x hx),fun u hu=>k.top u (h.top u hu)⟩
theorem yt.swap{m:Nat}{l:List Int}{i j:Nat}(hi:i<m)(hj:j<m)(hm:m≤l.length):yt m l (iO l i j):=by
 refine⟨lB _ _ _,tF l i j oX oX,fun x hx=>?_,fun u hu x hx=>?_⟩
 ·rw[qy _ _ _ _ oX oX,aE oX,aE oX]
 ·rw[qy _ _ _ _ oX oX];split
  ·exact hu i hi
  ·split
   ·exact hu j hj
   ·exact hu x hx
section
variable{l:List Int}
theorem Hh{m k:Nat}(h:iP l m (k+1)):vF l m k k:=
 ⟨fun c hc h1 h2 h3=>h c hc h1 oX,fun h1 h2=>oX⟩
theorem K6{m lo k:Nat}(h:vF l m lo k)(hk:m≤2*k+1):iP l m lo:=by
 intro c hc h1 h2;by_cases h3:(c-1) / 2=k
 ·omega
 ·exact h.1 c hc h1 h2 h3
theorem vG{m lo k:Nat}(h:vF l m lo k)(h1:l.getD (2*k+1) 0≤l.getD k 0)(h2:2*k+2<m→l.getD (2*k+2) 0≤l.getD k 0):iP l m lo:=by
 intro c hc oF ja;by_cases h3:(c-1) / 2=k
 ·rw[h3];by_cases h4:c=2*k+1
  ·rw[h4];exact h1
  ·have:c=2*k+2:=by omega
   rw[this];exact h2 oX
 ·exact h.1 c hc oF ja h3
theorem K7{m lo k c:Nat}(h:vF l m lo k)(hm:m≤l.length)(hc:c=2*k+1∨c=2*k+2)(K8:c<m)(ja:lo≤k)(Xu:l.getD k 0≤l.getD c 0)(Vt:∀d,d<m→(d=2*k+1∨d=2*k+2)→l.getD d 0≤l.getD c 0):vF (iO l k c) m lo c:=by
 have hg:=fun x=>qy l k c x oX oX
 constructor
 ·intro d hd Ut Yw hdc;rw[hg d,hg ((d-1) / 2)];by_cases hp:(d-1) / 2=k
  ·rw[aE (by omega:¬(d-1) / 2=c),aF hp];by_cases Yx:d=c
   ·rw[aF Yx];exact Xu
   ·rw[aE Yx,aE oX];exact Vt d hd oX
  ·rw[aE hdc,aE hp];by_cases R0:d=k
   ·rw[aE oX,aF R0,R0];subst R0;exact h.2 Ut Yw c K8 oX oX
   ·rw[aE oX,aE R0];exact h.1 d hd Ut Yw hp
 ·intro _ _ d hd Ut Yy;rw[hg d,hg ((c-1) / 2),aE oX,aE oX,aE oX,aF oX];have:=h.1 d hd Ut oX oX;rw[Yy]at this;exact this
theorem K9{m:Nat}(h:iP l m 0):∀x,x<m→l.getD x 0≤l.getD 0 0:=by
 intro x;induction x using Nat.strongRecOn with
 |_ x ih=>
  intro hx;by_cases h0:x=0
  ·rw[h0];exact Int.le_refl _
  ·exact Int.le_trans (h x hx oX oX) (ih ((x-1) / 2) oX oX)
end
theorem La(l:List Int)(n lo:Nat)(h:n≤2*lo+1):iP l n lo:=by
 intro c hc h1 h2;omega
structure Phase(l:List Int)(e:Nat):Prop where
 heap:iP l e 0
 tail:∀i j,e≤i→i<j→j<l.length→l.getD i 0≤l.getD j 0
 cut:∀i j,i<e→e≤j→j<l.length→l.getD i 0≤l.getD j 0
theorem ED{l:List Int}(h:iP l l.length 0):Phase l l.length:=⟨h,fun _ _ _ _ _=>by omega,fun _ _ _ _ _=>by omega⟩
theorem yu{l:List Int}{e:Nat}(h:Phase l (e+1))(he:e<l.length)(h0:0<e):iP (iO l 0 e) e 1∧(∀i j,e≤i→i<j→j<l.length→(iO l 0 e).getD i 0≤(iO l 0 e).getD j 0)∧(∀j,e≤j→j<l.length→∀i,i<e→(iO l 0 e).getD i 0≤(iO l 0 e).getD j 0):=by
 have hg:=fun x=>qy l 0 e x oX he
 have hr:=K9 h.heap;refine⟨fun c hc h1 h2=>?_,fun i j hi K0 hj=>?_,fun j hj vy i hi=>?_⟩
 ·rw[hg c,hg ((c-1) / 2),aE oX,aE oX,aE oX,aE oX];exact h.heap c oX h1 oX
 ·rw[hg i,hg j,aE (by omega:¬j=e),aE (by omega:¬j=0)];by_cases hie:i=e
  ·rw[aF hie];exact h.cut 0 j oX oX hj
  ·rw[aE hie,aE oX];exact h.tail i j oX K0 hj
 ·rw[hg i,hg j,aE (by omega:¬i=e)];by_cases hje:j=e
  ·rw[aF hje];split
   ·exact hr e oX
   ·exact hr i oX
  ·rw[aE hje,aE (by omega:¬j=0)];split
   ·exact h.cut e j oX oX vy
   ·exact h.cut i j oX oX vy
theorem Hi{l l':List Int}{e:Nat}(h:Phase l (e+1))(he:e<l.length)(h0:0<e)(hs:yt e (iO l 0 e) l')(hh:iP l' e 0):Phase l' e:=by
 obtain⟨_,h2,h3⟩:=yu h he h0;have hl:l'.length=l.length:=hs.len.trans (lB _ _ _);refine⟨hh,fun i j hi K0 hj=>?_,fun i j hi hj vy=>?_⟩
 ·rw[hs.NI i hi,hs.NI j oX];exact h2 i j hi K0 oX
 ·rw[hs.NI j hj];exact hs.top _ (h3 j hj oX) i hi
theorem Cx{l:List Int}(h:Phase l 1):l.Pairwise (· ≤·):=by
 rw[List.pairwise_iff_getElem];intro i j hi hj K0;have ei:l.getD i 0=l[i]:=by simp[List.getD,hi]
 have ej:l.getD j 0=l[j]:=bt8
 rw[←ei,←ej];by_cases h0:i<1
 ·exact h.cut i j h0 oX hj
 ·exact h.tail i j oX K0 hj
theorem Cy{l:List Int}(h:l.length≤1):l.Pairwise (· ≤·):=by
 rw[List.pairwise_iff_getElem];intro i j hi hj K0;omega
theorem Aw{a b:List Int}(ha:a.Pairwise (· ≤·))(hb:b.Pairwise (· ≤·))(h:a.Perm b):a=b:=
 List.Perm.eq_of_pairwise (fun _ _ _ _ h1 h2=>Int.le_antisymm h1 h2) ha hb h
theorem lC:(prog.info? 3).map (fun i=>(i.zero,i.size,i.bytes))=some (some (.int .i64 0),1,8):=kX
theorem Lb(d m:Int)(hm:0<m):d % m=if d.tmod m<0 then d.tmod m+m else d.tmod m:=by
 have h:=Int.tmod_eq_emod (a:=d) (b:=m);have h1:=Int.emod_nonneg d (by omega:m≠0);have h2:=Int.emod_lt_of_pos d hm;split at h<;>split<;>omega
theorem Hk(d i:Int)(w:World)(h0:0≤i)(h1:i≤1000):Calls prog 215 #[.int .i64 d,.int .i64 i] w fun e w'=>e=.returned (.int .i64 (d % (i+1)))∧w=w':=by
 have h:=Lb d (i+1) oX;have gq:=Int.emod_nonneg d (by omega:i+1≠0);have mz:=Int.emod_lt_of_pos d (by omega:0<i+1);by_cases hn:d.tmod (i+1)<0
 ·rw[aF hn]at h;have H:=ag h;have Hl:0≤d.tmod (i+1)+(i+1):=by omega
  have R8:d.tmod (i+1)+(i+1)≤1000:=oX
  exact bf4
 ·rw[aE hn]at h;have H:=ag h;have Hl:0≤d.tmod (i+1):=by omega
  have R8:d.tmod (i+1)≤1000:=oX
  exact bf4
def rz(ds:List Int):Nat→List Int
 |0=>[]
 |k+1=>iO (rz ds k++[(k:Int)]) k (ds.getD k 0 % ((k:Int)+1)).toNat
theorem rK(ds:List Int)(k:Nat):(rz ds k).length=k:=by
 induction k with
 |zero=>rfl
 |succ k ih=>simp[rz,lB,ih]
def yv(B:Nat)(w:World)(v:Value)(zs:List Int):Prop:=w.ownsRow B 3 1 v zs.length (zs.map (Value.int .i64))
def vH(w0:World)(zs:List Int)(e:Ending)(w':World):Prop:=
 ∃v,e=.returned v∧yv w0.heap.size w' v zs∧Below w0.heap.size w0 w'
theorem yv.rd{B:Nat}{w:World}{v:Value}{zs:List Int}(h:yv B w v zs)(hl:zs.length≤9223372036854775807):∃ao cap,v=.slice ao zs.length cap∧Rd .i64 w ao zs:=by
 rcases h.2 with⟨rfl,h0⟩|⟨g,cap,cur,rfl,hB,hg,hn,hc,hs,ht⟩
 ·refine⟨none,0,by rw[h0],hl,fun h1=>oX⟩
 ·refine⟨some ⟨g,0,none⟩,cap,rfl,hl,fun h1=>⟨g,0,rfl,fun j hj=>?_⟩⟩;have:=World.ownsRow.cellAt (g:=g) (cap:=cap) h j bs8;rw[Nat.zero_add,this];simp[hj]
theorem uJ{B g cap n:Nat}{w:World}{zs:List Int}{i j:Nat}{x y:Int}(h:w.ownsRow B 3 1 (.slice (some ⟨g,0,none⟩) n cap) n (zs.map (Value.int .i64)))(hx:x=zs.getD i 0)(hy:y=zs.getD j 0):((w.setCell ⟨g,i,none⟩ (.int .i64 y)).setCell ⟨g,j,none⟩ (.int .i64 x)).ownsRow B 3 1 (.slice (some ⟨g,0,none⟩) n cap) n ((iO zs i j).map (Value.int .i64)):=by
 have h1:=(h.stored i (.int .i64 y)).1;have h2:=(h1.stored j (.int .i64 x)).1;subst hx hy;simpa[iO,List.map_set]using h2
theorem tG{B g:Nat}{w0 w:World}{i j:Nat}{x y:Value}(h:Below B w0 w)(hg:B≤g):Below B w0 ((w.setCell ⟨g,i,none⟩ y).setCell ⟨g,j,none⟩ x):=
 (h.setCell hg _).setCell hg _
theorem Lc(ds:List Int)(n:Nat)(hn:n=ds.length)(a:Option Addr)(ca:Nat)(w:World)(h:Rd .i64 w a ds)(hl:n≤1000):Calls prog 198 #[.slice a n ca] w (vH w (rz ds n)):=by
 obtain⟨i0,hi,fV,gF,gG⟩:=info_parts lC;have Hn:=ag hn;clear hn;have H1:=ag h;clear h;go_enter func198,ntmps198;go_wp2_with (at_make;go_loud (refine wpList_make_own _ rfl _ _ 28 rfl w.heap.size 3 i0 (.int .i64 0) 1 underlying28 hi fV gF _ _ _ n rfl rfl rfl bk6 bj4 cG ?_);intro w1 hown bX);have hb:Below w.heap.size w w1:=(fp _ _).grown bX cG bj7;go_loopw [3,4,5,11] (fun v _ _ i wr=>∃k:Nat,k≤n∧i=.int .i64 k∧v=.slice (some ⟨w.heap.size,0,none⟩) k n∧wr.ownsRow w.heap.size 3 1 (.slice (some ⟨w.heap.size,0,none⟩) k n) k ((rz ds k).map (Value.int .i64))∧Below w.heap.size w wr) (fun _ _ _ i _=>n-(intOf i).toNat)
 case atStart=>exact⟨0,Nat.zero_le _,rfl,rfl,hown,hb⟩
 case round=>
  clear hown bX hb;obtain⟨k,hk,rfl,rfl,hown,hb⟩:=hrel;by_cases dD:k<n
  ·have cP:=rK ds k;have qz:=ag cP;clear cP;go_wp2_with (at_builtin;refine wpList_append_fits _ rfl (.tmp 14) (.tmp 16) 28 rfl w.heap.size 3 i0 1 underlying28 hi gF w.heap.size k n _ rfl (hown.alloc _) ⟨wr.heap.size,0,none⟩ 1 1 [.int .i64 k] rfl rfl (cell_one_new _ _ _) bo3 oX ?_);intro w1 Bv NJ;have hsz:=hb.size;have gq:Below w.heap.size w w1:=(hb.alloc hsz _).grown NJ bi8 (by intro q hq;simp at hq;omega);obtain⟨b1,o1,rfl,c1⟩:=(H1.out.below gq cG).at k bk8;obtain⟨d,hd⟩:=named (ds.getD k 0);rw[←hd.out]at c1;have e0:=Int.emod_nonneg d (by omega:(k:Int)+1≠0);have e1:=Int.emod_lt_of_pos d (by omega:0<(k:Int)+1);obtain⟨j,hj⟩:∃j:Nat,(j:Int)=d % ((k:Int)+1):=⟨_,Int.toNat_of_nonneg e0⟩;have hjk:j≤k:=by omega
   have NK:=fun W=>Hk d k W oX oX
   rw[←hj]at NK;have Yz:=ag NK;have Hj:=ag hj;clear NK e0 e1 hj hown NJ;have ck:w1.cell? ⟨w.heap.size,k,none⟩=some (.int .i64 k):=(by rw[Bv.cellAt k oX];simp[qz.out]);obtain⟨y,hy⟩:=named ((rz ds k++[(k:Int)]).getD j 0)
   have cj:w1.cell? ⟨w.heap.size,j,none⟩=some (.int .i64 y):=by
    rw[Bv.cellAt j oX,hy.out];have:(rz ds k).map (Value.int .i64)++[Value.int .i64 k]=(rz ds k++[(k:Int)]).map (Value.int .i64):=sX
    rw[this,na,yk,fv (by simp[qz.out];omega)];rfl
   have fk:=Bv.frozenAt k;have fj:=Bv.frozenAt j;go_wp2_with (go_at_call 215;refine(Yz.out _).mono ?_;rintro e w' ⟨rfl,rfl⟩);have fu:w1.ownsRow w.heap.size 3 1 (.slice (some ⟨w.heap.size,0,none⟩) (k+1) n) (k+1) ((rz ds k++[(k:Int)]).map (Value.int .i64)):=(by simpa using Bv);have hx:(k:Int)=(rz ds k++[(k:Int)]).getD k 0:=(by simp[qz.out]);have Hx:=ag hx;have Uu:rz ds (k+1)=iO (rz ds k++[(k:Int)]) k j:=(by show iO _ _ (ds.getD k 0 % ((k:Int)+1)).toNat=_;rw[←hd.out,←Hj.out];rfl);have Uv:=ag Uu;clear hx Uu Bv;by_cases ai0:j=k
   ·subst ai0;go_region;go_wp2;go_roundw
    case rel=>exact⟨j+1,oX,bl2,rfl,by rw[Uv.out];exact uJ fu hy.out hy.out,(tG gq cG).drew⟩
    case measure=>simp[intOf];omega
   ·go_region;go_wp2;go_roundw
    case rel=>exact⟨k+1,oX,bl2,rfl,by rw[Uv.out];exact uJ fu Hx.out hy.out,(tG gq cG).drew⟩
    case measure=>simp[intOf];omega
  ·obtain rfl:k=n:=by omega
   go_wp2;go_ret;exact⟨_,rfl,by unfold yv;rw[rK];exact hown,hb⟩
theorem sZ{P:Program}{w:World}{ops:Array Oper}{rest:List Oper}{o:Oper}{a:Act}{Q:Exit→Act→World→Prop}(nX:o.guard=none)(s x:Operand)(t:TypeId)(ho:o.op=.call {callee:=.builtin .append,args:=#[s,x],argTypes:=#[t,t]})(e:TypeId)(i:TypeInfo)(z:Value)(bytes:Nat)(ht:P.underlying t=some (.slice e))(hi:P.info? e=some i)(hz:i.zero=some z)(hsize:i.size=1)(hby:i.bytes=bytes)(hzs:z.cells.size=1)(hb:bytes≤1000)(sa:Option Addr)(hs:a.eval s=.slice sa 0 0)(ad:Addr)(c:Nat)(u:Value)(hx:a.eval x=.slice (some ad) 1 c)(hu:w.cell? ad=some u)(h1:u.oneCell'=true)(h:∀cap w',w'.ownsRow w.heap.size e 1 (.slice (some ⟨w.heap.size,0,none⟩) 1 cap) 1 [u]→w.grownBy w' none→wpList P ops Q rest (a.put o.dst (.slice (some ⟨w.heap.size,0,none⟩) 1 cap)) w'):wpList P ops Q (o::rest) a w:=by
 refine wpList_plain nX fun K hK=>?_
 have Bw:∀j v,[u][j]?=some v→w.cell? (ad.add j)=some v:=by
  exact aZ6
 have YA:=grownCap_ge w 1 0 e;have K8:grownCap w 1 0 e≤maxLen:=grownCap_le_maxLen w 1 0 e bj4
 have fin:∀cap,1≤cap→cap≤maxLen→(w.drew.alloc (.cells (#[u]++Builtin.zeroCells z.cells (cap-1)) e)).ownsRow w.heap.size e 1 (.slice (some ⟨w.heap.size,0,none⟩) 1 cap) 1 [u]∧
   w.grownBy (w.drew.alloc (.cells (#[u]++Builtin.zeroCells z.cells (cap-1)) e)) none:=by
  intro cap h1 h2;refine⟨⟨rfl,.inr ⟨w.heap.size,_,_,rfl,Nat.le_refl _,dP w.drew _,h1,h2,?_,?_⟩⟩,⟨rfl,rfl,rfl,sX,fun k hk _=>gf w.drew _ k hk⟩⟩
  ·simp[size_zeroCells,hzs];omega
  ·simp
 have ta:∃cap w',(Builtin.append_ #[t,t] o.type #[.slice sa 0 0,.slice (some ad) 1 c]).run P w=.ok (.slice (some ⟨w.heap.size,0,none⟩) 1 cap) w'∧w'.ownsRow w.heap.size e 1 (.slice (some ⟨w.heap.size,0,none⟩) 1 cap) 1 [u]∧w.grownBy w' none:=by
  cases sa with
  |none=>
   have hr:=run_append_nil (P:=P) w t o.type e i z ht hi hz ad 1 c [u] bt9 Bw oX oX oX;exact⟨_,_,hr,by simpa using fin _ YA K8⟩
  |some sa=>
   have hr:=run_append_grow (P:=P) w t o.type e i z ht hi hz sa 0 0 [] sX (by intro j v hv;simp at hv) ad 1 c [u] bt9 Bw oX oX (growslice_fits oX oX);exact⟨_,_,hr,by simpa using fin _ YA K8⟩
 obtain⟨cap,w',hr,h2,h3⟩:=ta;unfold Oper.wp execOp;simp only[ho,resolve,invoke,builtin,Sem.run_bind,Sem.run_pure,Result.andThen_ok,List.map_toArray,List.map_cons,List.map_nil,hs,hx,hr];exact hK _ _ (h cap w' h2 h3)
theorem Bx{w w3:World}{us:Array Value}{t:TypeId}(hW:w3.heap=(w.alloc (.cells us t)).heap):∀j v,us.toList[j]?=some v→w3.cell? ((⟨w.heap.size,0,none⟩:Addr).add j)=some v:=by
 have h1:w3.heap[w.heap.size]?=some (.cells us t (0,0)):=by rw[hW];exact dP w _
 exact World.news_of_block h1
section
variable{P:Program}
theorem JT{o:Oper}{a:Act}{K:Act→World→Prop}{Q:Exit→Act→World→Prop}(s x:Operand)(t:TypeId)(ho:o.op=.call {callee:=.builtin .append,args:=#[s,x],argTypes:=#[t,t]}){af:Nat}{e:TypeId}{i:TypeInfo}{z:Value}{size bytes:Nat}(ht:P.underlying t=some (.slice e))(hi:P.info? e=some i)(hz:i.zero=some z)(hsize:i.size=size)(hby:i.bytes=bytes)(hzs:z.cells.size=size)(hsz:0<size)(hbb:bytes≤200){w2 W3:World}{us:Array Value}(hW:W3.heap=(w2.alloc (.cells us e)).heap)(hus:us.size=size)(h1:∀u∈us.toList,u.oneCell'=true)(v:Value)(n:Nat)(xs:List Value)(hs:a.eval s=v)(hown:w2.ownsRow af e size v n xs)(hx:a.eval x=.slice (some ⟨w2.heap.size,0,none⟩) 1 1)(hn:n<1000001)(hbase:af≤w2.heap.size)(h:∀g cap w',w'.ownsRow af e size (.slice (some ⟨g,0,none⟩) (n+1) cap) (n+1) (xs++us.toList)→W3.grownBy w' v.ownBlock→(v.ownBlock=some g∨W3.heap.size≤g)→K (a.put o.dst (.slice (some ⟨g,0,none⟩) (n+1) cap)) w'):o.wp P a W3 K Q:=by
 exact aW9
theorem jN{ops:Array Oper}{o:Oper}{a:Act}{K:Act→World→Prop}{Q:Exit→Act→World→Prop}{E:Prop}(nX:o.guard=none)(s x:Operand)(t:TypeId)(ho:o.op=.call {callee:=.builtin .append,args:=#[s,x],argTypes:=#[t,t]}){af:Nat}{e:TypeId}{i:TypeInfo}{z:Value}{size bytes:Nat}(ht:P.underlying t=some (.slice e))(hi:P.info? e=some i)(hz:i.zero=some z)(hsize:i.size=size)(hby:i.bytes=bytes)(hzs:z.cells.size=size)(hsz:0<size)(hbb:bytes≤200){w2 W3:World}{us:Array Value}(hW:W3.heap=(w2.alloc (.cells us e)).heap)(hus:us.size=size)(h1:∀u∈us.toList,u.oneCell'=true)(v:Value)(n:Nat)(xs:List Value)(hs:a.eval s=v)(hown:w2.ownsRow af e size v n xs)(hx:a.eval x=.slice (some ⟨w2.heap.size,0,none⟩) 1 1)(hn:n<1000001)(hbase:af≤w2.heap.size)(h:∀g cap w',w'.ownsRow af e size (.slice (some ⟨g,0,none⟩) (n+1) cap) (n+1) (xs++us.toList)→W3.grownBy w' v.ownBlock→(v.ownBlock=some g∨W3.heap.size≤g)→K (a.put o.dst (.slice (some ⟨g,0,none⟩) (n+1) cap)) w'):if Region.wanted o (yielded ops a.tmps)=true then Oper.wp P o a W3 K Q else E:=by
 have hw:Region.wanted o (yielded ops a.tmps)=true:=bm2
 rw[aF hw];exact JT s x t ho ht hi hz hsize hby hzs hsz hbb hW hus h1 v n xs hs hown hx hn hbase h
theorem jw{ops:Array Oper}{rest:List Oper}{o:Oper}{a:Act}{Q:Exit→Act→World→Prop}(nX:o.guard=none)(s x:Operand)(t:TypeId)(ho:o.op=.call {callee:=.builtin .append,args:=#[s,x],argTypes:=#[t,t]}){af:Nat}{e:TypeId}{i:TypeInfo}{z:Value}{size bytes:Nat}(ht:P.underlying t=some (.slice e))(hi:P.info? e=some i)(hz:i.zero=some z)(hsize:i.size=size)(hby:i.bytes=bytes)(hzs:z.cells.size=size)(hsz:0<size)(hbb:bytes≤200){w2 W3:World}{us:Array Value}(hW:W3.heap=(w2.alloc (.cells us e)).heap)(hus:us.size=size)(h1:∀u∈us.toList,u.oneCell'=true)(v:Value)(n:Nat)(xs:List Value)(hs:a.eval s=v)(hown:w2.ownsRow af e size v n xs)(hx:a.eval x=.slice (some ⟨w2.heap.size,0,none⟩) 1 1)(hn:n<1000001)(hbase:af≤w2.heap.size)(h:∀g cap w',w'.ownsRow af e size (.slice (some ⟨g,0,none⟩) (n+1) cap) (n+1) (xs++us.toList)→W3.grownBy w' v.ownBlock→(v.ownBlock=some g∨W3.heap.size≤g)→wpList P ops Q rest (a.put o.dst (.slice (some ⟨g,0,none⟩) (n+1) cap)) w'):wpList P ops Q (o::rest) a W3:=
 wpList_plain nX fun _ hK=>JT s x t ho ht hi hz hsize hby hzs hsz hbb hW hus h1 v n xs hs hown hx hn hbase fun g cap w' h2 h3 h4=>hK _ _ (h g cap w' h2 h3 h4)
theorem lD{w:World}{ops:Array Oper}{rest:List Oper}{o:Oper}{a:Act}{Q:Exit→Act→World→Prop}(nX:o.guard=none)(s x:Operand)(t:TypeId)(ho:o.op=.call {callee:=.builtin .append,args:=#[s,x],argTypes:=#[t,t]})(af:Nat)(e:TypeId)(i:TypeInfo)(z:Value)(bytes:Nat)(ht:P.underlying t=some (.slice e))(hi:P.info? e=some i)(hz:i.zero=some z)(hsize:i.size=1)(hby:i.bytes=bytes)(hzs:z.cells.size=1)(v:Value)(n:Nat)(xs:List Value)(hs:a.eval s=v)(hown:w.ownsRow af e 1 v n xs)(ad:Addr)(c:Nat)(u:Value)(hx:a.eval x=.slice (some ad) 1 c)(hu:w.cell? ad=some u)(h1:u.oneCell'=true)(h63:n+1≤maxLen)(NM:(n+1)*bytes≤140737488355328)(hbase:af≤w.heap.size)(h:∀g cap w',w'.ownsRow af e 1 (.slice (some ⟨g,0,none⟩) (n+1) cap) (n+1) (xs++[u])→w.grownBy w' (some g)→(v=.slice (some ⟨g,0,none⟩) n cap∨g=w.heap.size)→wpList P ops Q rest (a.put o.dst (.slice (some ⟨g,0,none⟩) (n+1) cap)) w'):wpList P ops Q (o::rest) a w:=by
 refine wpList_plain nX fun K hK=>?_
 have Bw:∀j v,[u][j]?=some v→w.cell? (ad.add j)=some v:=by
  exact aZ6
 have hsm:n+1≤9223372036854775807:=by simp only[maxLen]at h63;omega
 have vI:xs.length=n:=by have:=hown.1;omega
 have YA:∀old,n+1≤grownCap w (n+1) old e:=fun old=>grownCap_ge w (n+1) old e
 have K8:∀old,grownCap w (n+1) old e≤maxLen:=fun old=>grownCap_le_maxLen w (n+1) old e h63
 have fin:∀cap,n+1≤cap→cap≤maxLen→(w.drew.alloc (.cells (xs.toArray++#[u]++Builtin.zeroCells z.cells (cap-(n+1))) e)).ownsRow af e 1 (.slice (some ⟨w.heap.size,0,none⟩) (n+1) cap) (n+1) (xs++[u])∧
   w.grownBy (w.drew.alloc (.cells (xs.toArray++#[u]++Builtin.zeroCells z.cells (cap-(n+1))) e)) (some w.heap.size):=by
  intro cap h1 h2;refine⟨⟨by simp[vI],.inr ⟨w.heap.size,_,_,rfl,hbase,dP w.drew _,h1,h2,?_,?_⟩⟩,⟨rfl,rfl,rfl,sX,fun k hk _=>gf w.drew _ k hk⟩⟩
  ·simp[size_zeroCells,hzs,vI];omega
  ·have:(xs.toArray++#[u]++Builtin.zeroCells z.cells (cap-(n+1))).toList=(xs++[u])++(Builtin.zeroCells z.cells (cap-(n+1))).toList:=by simp
   rw[this];exact List.take_left' (by simp[vI])
 have ta:∃g cap w',(Builtin.append_ #[t,t] o.type #[v,.slice (some ad) 1 c]).run P w=.ok (.slice (some ⟨g,0,none⟩) (n+1) cap) w'∧w'.ownsRow af e 1 (.slice (some ⟨g,0,none⟩) (n+1) cap) (n+1) (xs++[u])∧w.grownBy w' (some g)∧(v=.slice (some ⟨g,0,none⟩) n cap∨g=w.heap.size):=by
  rcases hown.2 with⟨rfl,rfl⟩|⟨g,cap,cur,rfl,Ro,hg,JU,mP,fa,Uw⟩
  ·have Hm:xs=[]:=xn vI;subst Hm;have hr:=run_append_nil (P:=P) w t o.type e i z ht hi hz ad 1 c [u] bt9 Bw oX oX oX;have hf:=fin _ (YA 0) (K8 0);simp only[Nat.zero_add]at hf ⊢;exact⟨_,_,_,hr,by simpa using hf.1,by simpa using hf.2,.inr rfl⟩
  ·by_cases Ux:n+1≤cap
   ·have hfit:n*i.size+[u].length≤cur.size:=(by rw[hsize,fa];simp;omega);have hr:=run_append_room (P:=P) w t o.type e i ht hi g n cap cur hg ad 1 c [u] bt9 Bw (by intro q hq;simp at hq;subst hq;exact h1) Ux hfit;refine⟨g,cap,_,hr,⟨by simp[vI],.inr ⟨g,cap,_,rfl,Ro,setRow_heap w g cur _ e _ hg,Ux,mP,?_,?_⟩⟩,⟨rfl,rfl,rfl,sX,fun k _ hk=>setRow_other w g k _ (fun e=>hk bt7)⟩,.inl rfl⟩
    ·rw[hsize,Nat.mul_one];simp;omega
    ·simp only[hsize,Nat.mul_one]at Uw ⊢;rw[Uw];exact List.take_left' (by simp[vI])
   ·have holds:∀j u,xs[j]?=some u→w.cell? ((⟨g,0,none⟩:Addr).add j)=some u:=hown.cells (g:=g) rfl;have hr:=run_append_grow (P:=P) w t o.type e i z ht hi hz ⟨g,0,none⟩ n cap xs (by rw[hsize];omega) holds ad 1 c [u] bt9 Bw oX oX (growslice_fits oX (by rw[hby];exact NM));have hf:=fin _ (YA cap) (K8 cap);exact⟨_,_,_,hr,hf.1,hf.2,.inr rfl⟩
 obtain⟨g,cap,w',hr,h2,h3,h4⟩:=ta;unfold Oper.wp execOp;simp only[ho,resolve,invoke,builtin,Sem.run_bind,Sem.run_pure,Result.andThen_ok,List.map_toArray,List.map_cons,List.map_nil,hs,hx,hr];exact hK _ _ (h g cap w' h2 h3 h4)
end
theorem aI8(z:Int):∀u∈(#[I z]:Array Value).toList,u.oneCell'=true:=bi9
theorem vJ:(8:Nat)≤200:=dX
section
variable{P:Program}{o:Oper}{a:Act}{w:World}{K:Act→World→Prop}{Q:Exit→Act→World→Prop}(s x:Operand)(t:TypeId)
include s x t
theorem yw(ho:o.op=.call {callee:=.builtin .append,args:=#[s,x],argTypes:=#[t,t]}){e:TypeId}{i:TypeInfo}(ht:P.underlying t=some (.slice e))(hi:P.info? e=some i)(hs:a.eval s=.slice none 0 0)(ao:Option Addr)(c:Nat)(hx:a.eval x=.slice ao 0 c)(h:K (a.put o.dst (.slice none 0 0)) w):o.wp P a w K Q:=by
 have hr:(Builtin.append_ #[t,t] o.type #[.slice none 0 0,.slice ao 0 c]).run P w=.ok (.slice none 0 0) w:=by cases ao<;>simp[Builtin.append_,run_underlying ht,sizeOf,typeInfo,hi,Builtin.lenOf,Builtin.firstCells,loadCells,loadCellsFrom]
 unfold Oper.wp execOp;simp only[ho,resolve,invoke,builtin,Sem.run_bind,Sem.run_pure,Result.andThen_ok,List.map_toArray,List.map_cons,List.map_nil,hs,hx,hr];exact h
theorem EF(ho:o.op=.call {callee:=.builtin .append,args:=#[s,x],argTypes:=#[t,t]}){e:TypeId}{i:TypeInfo}{z:Value}{size bytes:Nat}(ht:P.underlying t=some (.slice e))(hi:P.info? e=some i)(hz:i.zero=some z)(hsize:i.size=size)(hby:i.bytes=bytes)(hzs:z.cells.size=size)(hsz:0<size)(hbb:bytes≤200)(hs:a.eval s=.slice none 0 0)(b off n c:Nat)(hx:a.eval x=.slice (some ⟨b,off,none⟩) n c)(cs:List Value)(hl:cs.length=n*size)(hc:∀j u,cs[j]?=some u→w.cell? ⟨b,off+j,none⟩=some u)(h1:∀u∈cs,u.oneCell'=true)(h0:0<n)(hn:n<1000001)(h:∀cap w',w'.ownsRow w.heap.size e size (.slice (some ⟨w.heap.size,0,none⟩) n cap) n cs→w.grownBy w' none→K (a.put o.dst (.slice (some ⟨w.heap.size,0,none⟩) n cap)) w'):o.wp P a w K Q:=by
 have hm:(0+n)*bytes≤140737488355328:=by have:=Nat.mul_le_mul (show n≤1000001 by omega) hbb;rw[Nat.zero_add];omega
 refine wp_append_lies w s x t ho w.heap.size e i z size bytes ht hi hz hsize hby hzs hsz (.slice none 0 0) 0 [] hs (World.ownsRow_nil _ _ _ _) ⟨b,off,none⟩ n c cs hx hl (fun j u hu=>by rw[Addr.add_lit];exact hc j u hu) h1 h0 bj4 hm cG _ rfl ?_;intro g cap w' ho hg hw hl;rcases hw with hw|hw
 ·cases hw
 ·subst hw;rw[Nat.zero_add]at ho;rw[Nat.zero_add];exact h cap w' (by simpa using ho) hg
end
section
variable{P:Program}{ops:Array Oper}{rest:List Oper}{o:Oper}{a:Act}{w:World}{Q:Exit→Act→World→Prop}(nX:o.guard=none)(s x:Operand)(t:TypeId)
include nX s x t
theorem gO(ho:o.op=.call {callee:=.builtin .append,args:=#[s,x],argTypes:=#[t,t]}){e:TypeId}{i:TypeInfo}(ht:P.underlying t=some (.slice e))(hi:P.info? e=some i)(hs:a.eval s=.slice none 0 0)(ao:Option Addr)(c:Nat)(hx:a.eval x=.slice ao 0 c)(h:wpList P ops Q rest (a.put o.dst (.slice none 0 0)) w):wpList P ops Q (o::rest) a w:=
 wpList_plain nX fun _ hK=>yw s x t ho ht hi hs ao c hx (hK _ _ h)
theorem uM(ho:o.op=.call {callee:=.builtin .append,args:=#[s,x],argTypes:=#[t,t]}){e:TypeId}{i:TypeInfo}{z:Value}{size bytes:Nat}(ht:P.underlying t=some (.slice e))(hi:P.info? e=some i)(hz:i.zero=some z)(hsize:i.size=size)(hby:i.bytes=bytes)(hzs:z.cells.size=size)(hsz:0<size)(hbb:bytes≤200)(hs:a.eval s=.slice none 0 0)(b off n c:Nat)(hx:a.eval x=.slice (some ⟨b,off,none⟩) n c)(cs:List Value)(hl:cs.length=n*size)(hc:∀j u,cs[j]?=some u→w.cell? ⟨b,off+j,none⟩=some u)(h1:∀u∈cs,u.oneCell'=true)(h0:0<n)(hn:n<1000001)(h:∀cap w',w'.ownsRow w.heap.size e size (.slice (some ⟨w.heap.size,0,none⟩) n cap) n cs→w.grownBy w' none→wpList P ops Q rest (a.put o.dst (.slice (some ⟨w.heap.size,0,none⟩) n cap)) w'):wpList P ops Q (o::rest) a w:=
 wpList_plain nX fun _ hK=>EF s x t ho ht hi hz hsize hby hzs hsz hbb hs b off n c hx cs hl hc h1 h0 hn fun cap w' h2 h3=>hK _ _ (h cap w' h2 h3)
end
theorem Sc(a b c d e f:Value)(w:World):(Instr.field 49 (.agg #[a,b,c,d,e,f]) 0).run prog w=.ok a w:=kX
theorem qA(a b c d e f:Value)(w:World):(Instr.field 49 (.agg #[a,b,c,d,e,f]) 1).run prog w=.ok b w:=kX
def dm(H:Nat)(w:World)(v:Value)(cs:List Case):Prop:=
 cs=[]∧v=.slice none 0 0∨
 ∃nb cap,cs≠[]∧v=.slice (some ⟨nb,0,none⟩) cs.length cap∧H≤nb∧nb<w.heap.size∧
  ∀j c,cs[j]?=some c→w.cell? ⟨nb,j*3,none⟩=some (B c.cF)∧w.cell? ⟨nb,j*3+1,none⟩=some (I c.ch)∧w.cell? ⟨nb,j*3+2,none⟩=some (I c.v)
section
variable{af:Nat}{F:Fx}{w w0 w':World}{m m0 m':Mem}{S S':Wd}
theorem dm.below{H:Nat}{v:Value}{cs:List Case}(h:dm H w v cs)(hm:Below w.heap.size w w'):dm H w' v cs:=by
 rcases h with h|⟨nb,cap,h1,h2,h3,h4,h5⟩
 ·exact .inl h
 ·have hc:∀j v,w.cell? ⟨nb,j,none⟩=some v→w'.cell? ⟨nb,j,none⟩=some v:=fun j v hv=>by
   rw[hm.cell (p:=⟨nb,j,none⟩) h4];exact hv
  exact .inr ⟨nb,cap,h1,h2,h3,uB h4 hm.size,fun j c hj=>⟨hc _ _ (h5 j c hj).1,hc _ _ (h5 j c hj).2.1,hc _ _ (h5 j c hj).2.2⟩⟩
end
section
variable{af:Nat}{F:Fx}{w:World}{m:Mem}{S:Wd}
theorem nk(R:bz af F w m S)(k:Int):Calls prog 149 #[.pointer (some ⟨F.aw,0,none⟩),I k] w (eL (.tuple #[I (S.aw.first k).1,.bool (S.aw.first k).2]) fun w'=>w=w'):=by
 have c0:=R.yq;unfold bf.first;by_cases kL:0≤k∧k<S.aw.bM.length
 ·obtain⟨j,rfl⟩:∃j:Nat,k=j:=⟨k.toNat,oX⟩;have hj:j<S.aw.bM.length:=by omega
  obtain⟨l,hx⟩:∃x,S.aw.bM[j]?=some x:=⟨_,fv hj⟩;obtain⟨e0,e1,e2⟩:=R.line hx;have hd:decide ((j:Int)<(S.aw.bM.length:Int))=true:=bs8
  rw[eR,hx];obtain⟨n,hn⟩:=dC (l.count);rw[←hn]at e2;simp only;rw[←hn];clear R kL hx hn;by_cases h0:n=0
  ·rw[aF h0];have hb:(n==0)=true:=by simpa using h0
   have H0:=ag h0;clear h0;exact ba2
  ·rw[aE h0];have hb:(n==0)=false:=by simpa using h0
   clear h0;exact ba2
 ·rw[iN kL];have h1:k<0∨(0≤k∧(S.aw.bM.length:Int)≤k):=by omega
  clear R kL;rcases h1 with h1|⟨h0,h1⟩
  ·exact ba2
  ·have hd:decide (k<(S.aw.bM.length:Int))=false:=by simpa using h1
   exact ba2
theorem By(R:bz af F w m S)(k:Int):Calls prog 205 #[.pointer (some ⟨F.aw,0,none⟩),I k] w (eL (I (S.aw.len k)) fun w'=>w=w'):=by
 have c0:=R.yq;unfold bf.len;by_cases kL:0≤k∧k<S.aw.bM.length
 ·obtain⟨j,rfl⟩:∃j:Nat,k=j:=⟨k.toNat,oX⟩;have hj:j<S.aw.bM.length:=by omega
  obtain⟨l,hx⟩:∃x,S.aw.bM[j]?=some x:=⟨_,fv hj⟩;obtain⟨e0,e1,e2⟩:=R.line hx;have hd:decide ((j:Int)<(S.aw.bM.length:Int))=true:=bs8
  rw[eR,hx];clear R kL hx;go_enter func205,ntmps205;exact aW5
 ·rw[iN kL];have h1:k<0∨(0≤k∧(S.aw.bM.length:Int)≤k):=by omega
  clear R kL;rcases h1 with h1|⟨h0,h1⟩
  ·go_enter func205,ntmps205;exact aW5
  ·have hd:decide (k<(S.aw.bM.length:Int))=false:=by simpa using h1
   go_enter func205,ntmps205;exact aW5
def Sa(q:bf)(x:Int):Int×Bool:=match idx q.aS x with|some t=>if t.pX= -1 then(0,false)else(t.pX,true)|none=>(0,false)
theorem NN(R:bz af F w m S)(x:Int):Calls prog 206 #[.pointer (some ⟨F.aw,0,none⟩),I x] w (eL (.tuple #[I (Sa S.aw x).1,.bool (Sa S.aw x).2]) fun w'=>w=w'):=by
 have c0:=R.xN;unfold Sa;by_cases kL:0≤x∧x<S.aw.aS.length
 ·obtain⟨j,rfl⟩:∃j:Nat,x=j:=⟨x.toNat,oX⟩;have hj:j<S.aw.aS.length:=by omega
  obtain⟨l,hx⟩:∃x,S.aw.aS[j]?=some x:=⟨_,fv hj⟩;obtain⟨e0,e1,e2⟩:=R.thing hx;rw[eR,hx];obtain⟨n,hn⟩:=dC (l.pX);rw[←hn]at e0;simp only;rw[←hn];clear R kL hx hn;by_cases h0:n= -1
  ·subst h0;rw[aF rfl];go_enter func206,ntmps206;go_wp2;go_ret2;exact⟨rfl,rfl⟩
  ·rw[aE h0];have hb:(n== -1)=false:=by simpa using h0
   clear h0;go_enter func206,ntmps206;go_wp2;go_ret2;exact⟨rfl,rfl⟩
 ·rw[iN kL];have h1:x<0∨(0≤x∧(S.aw.aS.length:Int)≤x):=by omega
  clear R kL;go_enter func206,ntmps206;rcases h1 with h1|⟨h0,h1⟩
  all_goals
   go_wp2;go_ret2;exact⟨rfl,rfl⟩
theorem rL{q:bf}{j k:Nat}{x y:nf}(h:q.aS[k]?=some x)(cM:j≠k):(q.fJ j y).aS[k]?=some x:=by
 simp[bf.fJ,sW,cM,h]
theorem du{i:Int}{n:Nat}(h:nat? i=some n):i=n:=by
 unfold nat? at h;split at h
 ·cases h;omega
 ·cases h
theorem EE{q:bf}{j:Nat}{x y:nf}(h:q.aS[j]?=some x):(q.fJ j y).aS[j]?=some y:=getElem?_set_self' h
theorem lE{q:bf}{j:Nat}{x y:Ct}(h:q.bM[j]?=some x):(q.fe j y).bM[j]?=some y:=getElem?_set_self' h
theorem At.vK{m0:Mem}{w0:World}(A:At af F m0 w0 m w S){j:Nat}{x:nf}(h:S.aw.aS[j]?=some x)(y:nf):At af F m0 w0 m (((w.setCell ⟨F.aS,j*3,none⟩ (I y.pX)).setCell ⟨F.aS,j*3+1,none⟩ (I y.behind)).setCell ⟨F.aS,j*3+2,none⟩ (I y.ahead)) {S with aw:=S.aw.fJ j y}:=by
 have h1:=A.thing (q:=0) h {x with pX:=y.pX} oX (v:=I y.pX) rfl;have g1:(S.aw.fJ j {x with pX:=y.pX}).aS[j]?=some {x with pX:=y.pX}:=EE h;have h2:=h1.thing (q:=1) g1 {x with pX:=y.pX,behind:=y.behind} oX (v:=I y.behind) rfl;have g2:((S.aw.fJ j {x with pX:=y.pX}).fJ j {x with pX:=y.pX,behind:=y.behind}).aS[j]?=some {x with pX:=y.pX,behind:=y.behind}:=EE g1;have h3:=h2.thing (q:=2) g2 y oX (v:=I y.ahead) rfl;simpa[bf.fJ,my]using h3
end
section
variable{af:Nat}{F:Fx}{w w0:World}{m m0:Mem}{S:Wd}
section
variable(R:bz af F w m S)
include R
theorem EG:∃a c,w.cell? ⟨F.al,5,none⟩=some (.slice a S.au.length c):=by
 obtain⟨a,c,h⟩:=R.shape (r:=.au) (n:=S.au.length) bn5;exact⟨a,c,h▸R.qx⟩
theorem gJ(ch:Int):Calls prog 138 #[bR F,I ch] w (eL (.bool (cZ S ch)) fun w'=>w=w'):=by
 obtain⟨a,c,c0⟩:=EG R;unfold cZ;obtain⟨n,hn⟩:=dC (S.au.length);rw[←hn]at c0 ⊢;clear R hn;by_cases h1:1≤ch
 ·unfold bR;go_enter func138,ntmps138;exact bd6
 ·have hd:decide (1≤ch)=false:=by simpa using h1
  unfold bR;go_enter func138,ntmps138;exact bd6
theorem EH{g:Nat}{x:bI}(hx:S.gs[g]?=some x):∃a c,w.cell? ⟨F.gs,g*25+23,none⟩=some (.slice a x.wakes.length c):=by
 obtain⟨a,c,h⟩:=R.shape (r:=.wakes g) (n:=x.wakes.length) bm7;exact⟨a,c,h▸R.g hx 23 _ rfl⟩
theorem uN(g:Nat)(S':Wd)(hm:dk S g=some S'):Calls prog 159 #[bR F,I g] w (ee fun w'=>At af F m w m w' S'):=by
 unfold dk fL at hm
 cases hx:S.gs[g]? with
 |none=>rw[hx]at hm;cases hm
 |some x=>
  rw[hx]at hm;simp only[km]at hm
  cases hm;have eM:=cA hx;have c3:=R.eu;obtain⟨a,c,c23⟩:=EH R hx;obtain⟨c2,f2⟩:=R.ps hx 2 _ rfl;have HR:=ag (At.refl R);by_cases h0:x.wakes=[]
  ·rw[h0]at c23;have A:=ag (HR.out.g hx {x with ae:=18} (q:=2) (v:=I 18));rw[aF h0];exact bf5
  ·have hl:0<x.wakes.length:=pd h0;have A:=ag (HR.out.g hx {x with ae:=17} (q:=2) (v:=I 17));rw[aE h0];exact bf5
theorem Le(g s:Nat)(S':Wd)(hm:pair S g s=some S'):Calls prog 151 #[bR F,I g,I s] w (ee fun w'=>At af F m w m w' S'):=by
 unfold pair at hm;simp only[bW,cI]at hm;obtain⟨x,hx,sd,hs,z,hz,y,hy,hm⟩:=hm;have hz:=du hz;by_cases mh:z=g
 ·rw[aF mh]at hm;cases hm
 rw[aE mh]at hm
 cases hm;have eM:=cA hx;have Ay:z<S.gs.length:=cA hy;have mj:s<S.ah.length:=cA hs;have c3:=R.eu;have c9:=R.ed;have s1:=R.s hs 1 _ rfl;have s3:=R.s hs 3 _ rfl;have g10:=R.g hx 10 _ rfl;have g12:=R.g hx 12 _ rfl;have g13:=R.g hx 13 _ rfl;have z12:=R.g hy 12 _ rfl;have z13:=R.g hy 13 _ rfl;have z14:=R.g hy 14 _ rfl;have fr:=R.frozen R.aB.gs;have f1:=fr (g*25+12);have f2:=fr (g*25+13);have f3:=fr (z*25+12);have f4:=fr (z*25+13);have f5:=fr (z*25+14);obtain⟨aU,cm,fO,aY,dx,aZ,ez,dz,eB⟩:=R.b3X R.aB.al R.aB.gs R.aB.ah;have A1:=(At.refl R).g hx {x with point:=x.t} (q:=12) (v:=I x.t)
 have A2:=A1.g (az hx) {x with point:=x.t,bF:=z} (q:=13) (v:=I z);have rN:(S.ay g {x with point:=x.t,bF:=z}).gs[z]?=some y:=by rw[Cw (dE mh)];exact hy
 rw[aA]at A2;have A3:=A2.g rN {y with point:=x.t} (q:=12) (v:=I x.t);have A4:=A3.g (az rN) {y with point:=x.t,bF:=g} (q:=13) (v:=I g);rw[aA]at A4;have A5:=A4.g (az rN) {y with point:=x.t,bF:=g,fire:=sd.case} (q:=14) (v:=I sd.case);rw[aA]at A5;rw[hz]at s1 ⊢;have AH:=ag A5;have o1:¬g*25+10=z*25+12:=oX
 clear R hx hs hy hz fr A1 A2 A3 A4 A5 rN;unfold bR;go_enter func151,ntmps151;go_wp2_with fail
 go_quiet (fail);go_wp2;go_end0;exact⟨rfl,AH.out.aI⟩
end
end
section
variable{af:Nat}{F:Fx}{w w0 w':World}{m m0:Mem}{S:Wd}
section
variable(R:bz af F w m S)
include R
theorem bz.YB:w.cell? ⟨F.Eg,0,none⟩=some (I S.Eg.size):=R.cell R.aB.Eg (j:=0) rfl
theorem bz.NO:w.cell? ⟨F.Eg,1,none⟩=some (I S.Eg.most):=R.cell R.aB.Eg (j:=1) rfl
theorem bz.pf:w.cell? ⟨F.Eg,2,none⟩=some (.slice (some ⟨F.aC,0,none⟩) S.Eg.aC.length (m.cap .aC)):=by
 rw[←Mem.de R.aB.aC];exact R.cell R.aB.Eg (j:=2) rfl
theorem bz.uK:w.cell? ⟨F.Eg,3,none⟩=some (m.cU .aK S.Eg.aK.length):=R.cell R.aB.Eg (j:=3) rfl
theorem bz.Ho:w.cell? ⟨F.Eg,4,none⟩=some (I S.Eg.cO):=R.cell R.aB.Eg (j:=4) rfl
theorem bz.Bz:w.cell? ⟨F.Eg,5,none⟩=some (.slice (some ⟨F.bV,0,none⟩) S.Eg.bV.length (m.cap .bV)):=by
 rw[←Mem.de R.aB.bV];exact R.cell R.aB.Eg (j:=5) rfl
end
theorem bz.bV(R:bz af F w m S){j:Nat}{b:Bool}(h:S.Eg.bV[j]?=some b):w.cell? ⟨F.bV,j,none⟩=some (B b):=R.cell R.aB.bV bq5
section
variable(R:bz af F w m S)
include R
theorem bz.tH{g:Nat}{c:List Int}(h:S.Eg.aC[g]?=some c):w.cell? ⟨F.aC,g,none⟩=some (m.cU (.cache g) c.length):=by
 have h1:=fq (f:=je m) (k:=1) (fun _ _=>rfl) S.Eg.aC 0 g 0 c h oX;rw[Nat.mul_one,Nat.add_zero,Nat.zero_add]at h1;exact R.cell R.aB.aC h1
theorem uL:∃a c,m.cU .aK S.Eg.aK.length=.slice a S.Eg.aK.length c:=R.shape bn5
theorem wT{g:Nat}{l:List Int}(h:S.Eg.aC[g]?=some l):∃a c,m.cU (.cache g) l.length=.slice a l.length c:=R.shape bq5
theorem BA(x:Int)(hf:S.Eg.cO≤S.Eg.bV.length):Calls prog 207 #[.pointer (some ⟨F.Eg,0,none⟩),I x] w (eL (.bool (S.Eg.cK x)) fun w'=>w=w'):=by
 have c4:=R.Ho;have c5:=R.Bz;unfold fS.cK;by_cases kL:0≤x∧x<S.Eg.cO
 ·obtain⟨j,rfl⟩:∃j:Nat,x=j:=⟨x.toNat,oX⟩;have hj:j<S.Eg.bV.length:=by omega
  obtain⟨b,hb⟩:∃b,S.Eg.bV[j]?=some b:=⟨_,fv hj⟩;have cb:=R.bV hb;have hd:decide ((j:Int)<S.Eg.cO)=true:=by simpa using kL.2
  rw[eR,hb,hd];have dD:=kL.2;clear R hb hf kL;go_enter func207,ntmps207;go_wp2;go_ret;exact⟨sX,rfl⟩
 ·have h1:x<0∨(0≤x∧S.Eg.cO≤x):=by omega
  obtain⟨f,hfd⟩:=dC (S.Eg.cO);rw[←hfd]at c4 h1 ⊢;clear R hf kL hfd;rcases h1 with h1|⟨h0,h1⟩
  ·have hd:decide (0≤x)=false:=by simpa using h1
   go_enter func207,ntmps207;go_wp2;go_ret;exact⟨by simp[hd],rfl⟩
  ·have hd:decide (0≤x)=true:=by simpa using h0
   have Rp:decide (x<f)=false:=br9;go_enter func207,ntmps207;go_wp2;go_ret;exact⟨by simp[Rp],rfl⟩
end
end
section
variable{af b j:Nat}{F:Fx}{w w0 w':World}{m m0:Mem}{S S':Wd}{r:bH}{v:Value}
section
variable(A:At af F m0 w0 m w S)
include A
theorem At.cut{rp:bH}{bp n:Nat}(hb:m.aV r=some b)(hp:m.aV rp=some bp)(cM:rp≠r)(hr:aj m S' r=(aj m S r).take n)(oE:aj m S' rp=(aj m S rp).set j v)(ho:∀r',r'≠r→r'≠rp→aj m S' r'=aj m S r'):At af F m0 w0 m (w.setCell ⟨bp,j,none⟩ v) S':=by
 refine⟨A.mv.setCell (r:=rp) hp v,A.bj.inj,fun r' b' ff=>?_,fun r' hT=>?_,A.bj.aB⟩
 ·by_cases e2:r'=rp
  ·subst e2;obtain rfl:b'=bp:=by rw[hp]at ff;exact(mx ff).symm
   rw[oE];exact⟨(A.bj.lies _ _ hp).1,(A.bj.lies _ _ hp).2.set j v⟩
  ·have hx:=(A.bj.lies _ _ ff).2.other (w':=w.setCell ⟨bp,j,none⟩ v) (fQ _ _ _ _ (A.bj.ne ff hp e2));refine⟨(A.bj.lies _ _ ff).1,?_⟩;by_cases e1:r'=r
   ·subst e1;rw[hr];exact hx.take n
   ·rw[ho r' e1 e2];exact hx
 ·have e1:r'≠r:=fun e=>by rw[e,hb]at hT;cases hT
  have e2:r'≠rp:=fun e=>by rw[e,hp]at hT;cases hT
  rw[ho r' e1 e2];exact A.bj.none_ r' hT
theorem At.ai1(hl:r.loose=true){rp:bH}{bp c g n:Nat}{p:Nat×Nat}{xs:List Value}(nI:∀q,eI r=some q→q=p)(hp:m.aV rp=some bp)(cM:rp≠r)(hown:w.ownsRow af p.1 p.2 (.slice (some ⟨g,0,none⟩) n c) n xs)(bE:m.aV r=some g∨(∀r',m.aV r'≠some g)∧w0.heap.size≤g)(jM:aj (m.eG r (some g) c) S' r=xs)(oE:aj (m.eG r (some g) c) S' rp=(aj m S rp).set j v)(ho:∀r',r'≠r→r'≠rp→aj (m.eG r (some g) c) S' r'=aj m S r'):At af F m0 w0 (m.eG r (some g) c) (w.setCell ⟨bp,j,none⟩ v) S':=by
 have qw:∀r' b',r'≠r→m.aV r'=some b'→b'≠g:=by
  intro r' b' h1 h2 e;subst e;rcases bE with h|h
  ·exact h1 (A.bj.inj r' r _ h2 h)
  ·exact h.1 r' h2
 obtain⟨yp,rJ⟩:=gl.kg (ty:=eI r) nI hown;refine⟨pe.setCell (m:=m.eG r (some g) c) (r:=rp) ⟨A.mv.os,A.mv.tape,A.mv.output,A.mv.size,A.mv.keep,fun r' b hb=>?_⟩ bp3 _,?_⟩
 ·by_cases e:r'=r
  ·subst e;rw[Mem.dL]at hb;cases hb;rcases bE with h|h
   ·exact A.mv.old _ _ h
   ·exact .inr h.2
  ·rw[Mem.bN _ _ _ e]at hb;exact A.mv.old _ _ hb
 ·exact A.bj.row hl hp cM (fun g' Sb=>by cases Sb;exact⟨yp,by rw[jM];exact rJ,qw⟩) (fun h=>bk0) oE ho
theorem At.NP{g:Nat}(hg:w.grownBy w' (some g))(bE:(∀r',m.aV r'≠some g)∧w0.heap.size≤g):At af F m0 w0 m w' S:=by
 refine⟨⟨hg.os.trans A.mv.os,hg.tape.trans A.mv.tape,hg.output.trans A.mv.output,jm A.mv.size hg.size,fun b hb hn=>?_,A.mv.old⟩,A.bj.heap fun r b hb=>hg.block b (A.bj.lt hb) (fun e=>bE.1 r (by rw[hb];exact e))⟩;rw[hg.block b (uB hb A.mv.size) (fun e=>by cases e;omega)];exact A.mv.keep b hb hn
theorem At.Ld{g n c:Nat}{p:Nat×Nat}{xs:List Value}(nI:eI r=some p)(hr:m.aV r=some g)(h0:aj m S r=[])(hc:m.cap r=c)(hg:w.grownBy w' (some g))(hown:w'.ownsRow af p.1 p.2 (.slice (some ⟨g,0,none⟩) n c) n xs):At af F m0 w0 m w' S:=by
 obtain⟨yp,rJ⟩:=gl.kg (ty:=eI r) (p:=p) (fun q hq=>by rw[nI]at hq;exact(mx hq).symm) hown;refine⟨⟨hg.os.trans A.mv.os,hg.tape.trans A.mv.tape,hg.output.trans A.mv.output,jm A.mv.size hg.size,fun b hb hn=>?_,A.mv.old⟩,A.bj.inj,fun r' b' ff=>?_,A.bj.none_,A.bj.aB⟩
 ·rw[hg.block b (uB hb A.mv.size) (fun e=>?_)]
  ·exact A.mv.keep b hb hn
  ·cases e;rcases A.mv.old r _ hr with⟨r0,h⟩|h
   ·exact hn r0 h
   ·omega
 ·by_cases e:r'=r
  ·subst e;obtain rfl:b'=g:=by rw[hr]at ff;exact(mx ff).symm
   rw[h0,hc];exact⟨yp,by simpa using rJ.take 0⟩
  ·exact⟨(A.bj.lies _ _ ff).1,(A.bj.lies _ _ ff).2.other (hg.block b' (A.bj.lt ff) (fun x=>A.bj.ne ff hr e (mx x)))⟩
end
theorem At.cO(A:At af F m0 w0 m w S)(n:Int):At af F m0 w0 m (w.setCell ⟨F.Eg,4,none⟩ (I n)) {S with Eg:={S.Eg with cO:=n}}:=by
 refine A.set A.bj.aB.Eg rfl ?_;exact bf2
theorem At.bV(A:At af F m0 w0 m w S)(k:Nat)(x:Bool):At af F m0 w0 m (w.setCell ⟨F.bV,k,none⟩ (B x)) {S with Eg:={S.Eg with bV:=S.Eg.bV.set k x}}:=by
 refine A.set A.bj.aB.bV (by simp[aj,List.map_set]) ?_;exact aZ2
theorem At.Vv(A:At af F m0 w0 m w S){mb n:Nat}(hb:m.aV .aK=some mb)(hn:n≤S.Eg.aK.length):At af F m0 w0 m (w.setCell ⟨F.Eg,3,none⟩ (.slice (some ⟨mb,0,none⟩) n (m.cap .aK))) {S with Eg:={S.Eg with aK:=S.Eg.aK.take n}}:=by
 refine A.cut (n:=n) hb A.bj.aB.Eg sX (by simp[aj,List.map_take]) ?_ ?_
 ·simp[aj,Mem.de hb,Nat.min_eq_left hn]
 ·intro r' h1 h2
  cases r'<;>first|exact aX rfl h1|exact aX rfl h2|rfl
theorem oG{g k:Nat}{c d:List Int}{l:List (List Int)}(h:l[g]?=some c):(l.set g d)[k]?=if k=g then some d else l[k]?:=by
 by_cases e:k=g
 ·subst e;rw[aF rfl];exact getElem?_set_self' h
 ·rw[aE e,oA (dE e)]
section
variable{g:Nat}{c d:List Int}(h:S.Eg.aC[g]?=some c)
include h
theorem tg(o:Option Nat)(cp:Nat):∀r',r'≠bH.cache g→r'≠ .aC→aj (m.eG (.cache g) o cp) {S with Eg:={S.Eg with aC:=S.Eg.aC.set g d}} r'=aj m S r':=by
 intro r' h0 h1
 cases r'<;>first|exact aX rfl h1|rfl|(simp only[aj,kI,Mem.cU,Mem.ptr,Mem.eG,reduceCtorEq,dF];done)|skip
 all_goals
  first
  |(rename_i k
    simp only[aj,oG h]
    by_cases e:k=g
    ·subst e;exact aX rfl h0
    ·simp only[aE e])
  |(simp only[aj]
    apply iI
    intro k x _
    simp[gk,Mem.cU,Mem.eG];done)
  |(simp only[aj]
    split
    ·apply iI
     intro k x _
     simp[Cu,Mem.cU,Mem.eG]
    ·rfl)
theorem rM(gb cp:Nat):aj (m.eG (.cache g) (some gb) cp) {S with Eg:={S.Eg with aC:=S.Eg.aC.set g d}} .aC=(aj m S .aC).set g (.slice (some ⟨gb,0,none⟩) d.length cp):=by
 have:=iZ (f:=je m) (f':=je (m.eG (.cache g) (some gb) cp)) (k:=1) (fun _ _=>rfl) S.Eg.aC 0 g 0 c d (.slice (some ⟨gb,0,none⟩) d.length cp) h oX (fun n z hn=>by
  simp only[je,Mem.cU,Mem.eG];have:n≠g:=oX
  simp[this]) (by simp[je,Mem.cU,Mem.eG])
 simpa[aj]using this
end
theorem At.NQ(A:At af F m0 w0 m w S){g gb cp:Nat}{c d:List Int}(h:S.Eg.aC[g]?=some c)(hown:w.ownsRow af 3 1 (.slice (some ⟨gb,0,none⟩) d.length cp) d.length (d.map I))(bE:m.aV (.cache g)=some gb∨(∀r',m.aV r'≠some gb)∧w0.heap.size≤gb):At af F m0 w0 (m.eG (.cache g) (some gb) cp) (w.setCell ⟨F.aC,g,none⟩ (.slice (some ⟨gb,0,none⟩) d.length cp)) {S with Eg:={S.Eg with aC:=S.Eg.aC.set g d}}:=
 A.ai1 (p:=(3,1)) rfl bj8 A.bj.aB.aC sX hown bE (by simp[aj,oG h]) (rM h gb cp) (tg h _ _)
end
end Go.Proofs.YtadifmnmfnihdaaGreat
