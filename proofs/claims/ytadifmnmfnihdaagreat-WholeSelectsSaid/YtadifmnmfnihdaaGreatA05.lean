import Derived.Test.YtadifmnmfnihdaaGreatA01
set_option linter.all false
set_option maxRecDepth 100000
set_option maxHeartbeats 40000000
namespace Go.Proofs.YtadifmnmfnihdaaGreat
open Go.RowKit Mach Go.Proofs.Tryz
theorem Oc:(prog.info? 52).map (fun i=>(i.zero,i.size,i.bytes))=some (some (.agg #[.bool false,.int .i64 0,.int .i64 0]),3,24):=by kernel_rfl
def VP(af:Nat)(F:Fx)(m:Mem)(w:World)(S:Wd)(o:cu)(e:Ending)(w':World):Prop:=
 ∃cv,e=.returned (.agg #[I o.ai,I o.ch,I o.n,I o.v,cv,B o.dG])∧At af F m w m w' S∧dm w.heap.size w' cv o.cases
section
variable{af:Nat}{F:Fx}{w w0:World}{m m0:Mem}{S:Wd}
theorem nu{α:Type}{f:Nat→α→List Value}{k i:Nat}(hk:∀i x,(f i x).length=k)(h0:0<k){l:List α}(h:bT f i l=[]):l=[]:=by
 have h1:=dX hk l i;rw[h]at h1;rcases Nat.eq_zero_or_pos l.length with h2|h2
 ·exact xn h2
 ·have:=Nat.mul_pos h2 h0;simp at h1;omega
theorem bz.ops(R:bz af F w m S){g:Nat}{x:bI}(hx:S.gs[g]?=some x){j:Nat}{o:cu}(ho:x.ops[j]?=some o):∃ob,m.aV (.ops g)=some ob∧m.cU (.ops g) x.ops.length=.slice (some ⟨ob,0,none⟩) x.ops.length (m.cap (.ops g))∧∀q v,(Cu m g j o)[q]?=some v→w.cell? ⟨ob,j*6+q,none⟩=some v:=by
 have hc:aj m S (.ops g)=bT (Cu m g) 0 x.ops:=by simp only[aj,hx]
 have cM:aj m S (.ops g)≠[]:=by rw[hc];intro h;rw[nu (f:=Cu m g) (k:=6) (fun _ _=>rfl) (by decide) h]at ho;simp at ho
 obtain⟨ob,jz⟩:=R.has cM;refine⟨ob,jz,Mem.de jz _,fun q v hq=>?_⟩;have h1:q<6:=cA hq;have h:=fq (f:=Cu m g) (k:=6) (fun _ _=>rfl) x.ops 0 j q o ho h1;rw[Nat.zero_add,hq]at h;exact R.cell jz (by rw[hc];exact h)
theorem bz.cases(R:bz af F w m S){g:Nat}{x:bI}(hx:S.gs[g]?=some x){j:Nat}{o:cu}(ho:x.ops[j]?=some o):∃a c,m.cU (.cases g j) o.cases.length=.slice a o.cases.length c∧(o.cases≠[]→∃cb,a=some ⟨cb,0,none⟩∧cb<w.heap.size∧∀k v,(bT fT 0 o.cases)[k]?=some v→w.cell? ⟨cb,0+k,none⟩=some v):=by
 have hc:aj m S (.cases g j)=bT fT 0 o.cases:=by simp only[aj,hx,ho]
 by_cases h0:o.cases=[]
 ·cases hb:m.aV (.cases g j) with
  |none=>exact⟨none,0,by rw[Mem.j6 hb,h0];rfl,fun h=>aX h0 h⟩
  |some b=>exact⟨_,_,Mem.de hb _,fun h=>aX h0 h⟩
 ·have cM:aj m S (.cases g j)≠[]:=by
   rw[hc];exact fun h=>h0 (nu (f:=fT) (k:=3) (fun _ _=>rfl) (by decide) h)
  obtain⟨cb,fP⟩:=R.has cM;exact⟨_,_,Mem.de fP _,fun _=>⟨cb,rfl,R.lt fP,fun k v hk=>by rw[Nat.zero_add];exact R.cell fP (by rw[hc];exact hk)⟩⟩
theorem vU:∀(cs:List Case) (i:Nat),∀u∈bT fT i cs,u.oneCell'=true
 | [],_,_,h=>by simp[bT]at h
 |c::cs,i,u,h=>by
  simp only[bT,fT,sY,List.nil_append,iL]at h;rcases h with rfl|rfl|rfl|h
  ·rfl
  ·rfl
  ·rfl
  ·exact vU cs (i+1) u h
theorem mE(R:bz af F w m S){g:Nat}{x:bI}(hx:S.gs[g]?=some x):∃a c,m.cU (.ops g) x.ops.length=.slice a x.ops.length c:=
 R.shape (by simp only[aj,hx];intro h;rw[nu (f:=Cu m g) (k:=6) (fun _ _=>rfl) (by decide) h];rfl)
theorem St(R:bz af F w m S)(g:Nat)(x:bI)(hx:S.gs[g]?=some x)(hc:(dH S g).cases.length≤1000):Calls prog 92 #[bR F,I g] w (VP af F m w S (dH S g)):=by
 have eM:=cA hx;have c3:=R.eu;have g0:=R.g0 hx;have g1:=R.g hx 1 _ rfl;obtain⟨aU,cm,aY,aZ⟩:=R.pB;have HR:=ag (At.refl R);obtain⟨i0,hi,fV,gF,gG⟩:=info_parts Oc;unfold dH at hc ⊢;simp only[hx,eN]at hc ⊢;by_cases kL:0≤x.at_∧x.at_<x.ops.length
 ·obtain⟨j,hj⟩:∃j:Nat,x.at_=j:=⟨x.at_.toNat,by omega⟩;have vy:j<x.ops.length:=by omega
  obtain⟨o,ho⟩:∃o,x.ops[j]?=some o:=⟨_,fv vy⟩;rw[hj,eR,ho,Option.getD_some]at hc ⊢;obtain⟨ob,jz,XE,dj⟩:=R.ops hx ho;obtain⟨ca,cc,bO,YX⟩:=R.cases hx ho;have o0:w.cell? ⟨ob,j*6,none⟩=_:=dj 0 _ rfl;have o1:=dj 1 _ rfl;have o2:=dj 2 _ rfl;have o3:=dj 3 _ rfl;have o4:=dj 4 _ rfl;have o5:=dj 5 _ rfl;rw[bO]at o4;rw[XE]at g0;rw[hj]at g1;have aw4:=R.lt jz;have Ut:decide ((j:Int)<0)=false:=by simp
  have Rp:decide ((x.ops.length:Int)≤(j:Int))=false:=by simp;omega
  have hd3:decide (x.ops.length≤j)=false:=by simp;omega
  obtain⟨n,hn⟩:=dC (o.cases.length);rw[←hn]at o4;have HN:=ag hn;have HO:=ag dj;by_cases h0:o.cases=[]
  ·have vN:n=0:=by rw[hn,h0];rfl
   subst vN;have H0:=ag h0;clear R hx hj kL ho jz XE dj bO YX hn hc h0;unfold bR;go_enter func92,ntmps92;go_wp2;go_quiet (fail);go_wp2;go_region;go_wp2_with (at_builtin;refine gO rfl (.const (.slice none 0 0)) (.tmp 54) 47 rfl underlying47 hi rfl ca cc rfl ?_);refine bodyPost_ret (v:=.agg #[I o.ai,I o.ch,I o.n,I o.v,.slice none 0 0,B o.dG]) ?_ rfl ?_
   ·simp[results,Tryz.results92,go_sem]
   ·have hB:Below w.heap.size w ((((((((w.alloc (.cells #[.int .i64 0,.int .i64 0,.int .i64 0,.int .i64 0,.slice none 0 0,.bool false] 49)).drewN (nq+1)).setCell ⟨w.heap.size,0,none⟩ (I o.ai)).setCell ⟨w.heap.size,1,none⟩ (I o.ch)).setCell ⟨w.heap.size,2,none⟩ (I o.n)).setCell ⟨w.heap.size,3,none⟩ (I o.v)).setCell ⟨w.heap.size,4,none⟩ (.slice none 0 0)).setCell ⟨w.heap.size,5,none⟩ (B o.dG)):=
     (((((((below_drewN ((fp _ _).alloc cG _) _).setCell cG _).setCell cG _).setCell cG _).setCell cG _).setCell cG _).setCell cG _)
    trace "c"
    exact⟨_,rfl,HR.out.heap (hB.alloc hB.size _),.inl ⟨H0.out,rfl⟩⟩
  ·have vN:0<n:=by rw[hn];exact pd h0
   obtain⟨cb,rfl,EX,fa⟩:=YX h0;have BJ:=ag fa;have H0:=ag h0;have xS:n<1000001:=(by omega);have gm:(bT fT 0 o.cases).length=n*3:=(by rw[dX (f:=fT) (k:=3) (fun _ _=>rfl),hn]);have tP:=ag gm;clear R hx hj kL ho jz XE dj bO YX hn hc h0 fa gm;unfold bR;go_enter func92,ntmps92;go_wp2;go_quiet (fail);go_wp2;go_region;generalize nt:((w.alloc (.cells #[.int .i64 0,.int .i64 0,.int .i64 0,.int .i64 0,.slice none 0 0,.bool false] 49)).drewN (nq+1)).alloc (.cells #[.int .i64 o.ai,.int .i64 o.ch,.int .i64 o.n,.int .i64 o.v,.slice (some ⟨cb,0,none⟩) n cc,.bool o.dG] 49)=w2;have oH:w2.heap[w.heap.size]?=some (.cells #[.int .i64 0,.int .i64 0,.int .i64 0,.int .i64 0,.slice none 0 0,.bool false] 49 (0,0)):=(by rw[←nt,gf _ _ _ (by simp)];exact dP w _);have gq:w2.heap[w.heap.size+1]?=some (.cells #[.int .i64 o.ai,.int .i64 o.ch,.int .i64 o.n,.int .i64 o.v,.slice (some ⟨cb,0,none⟩) n cc,.bool o.dG] 49 (0,0)):=(by rw[←nt];have:=dP ((w.alloc (.cells #[.int .i64 0,.int .i64 0,.int .i64 0,.int .i64 0,.slice none 0 0,.bool false] 49)).drewN (nq+1)) (.cells #[.int .i64 o.ai,.int .i64 o.ch,.int .i64 o.n,.int .i64 o.v,.slice (some ⟨cb,0,none⟩) n cc,.bool o.dG] 49);simpa using this);have hsz:w2.heap.size=w.heap.size+2:=(by rw[←nt];simp);have G5:Below w.heap.size w w2:=(by rw[←nt];have h1:=below_drewN ((fp w.heap.size w).alloc cG (.cells #[.int .i64 0,.int .i64 0,.int .i64 0,.int .i64 0,.slice none 0 0,.bool false] 49)) (nq+1);exact h1.alloc h1.size _);have mq:=ag G5;have YY:∀j u,(bT fT 0 o.cases)[j]?=some u→w2.cell? ⟨cb,0+j,none⟩=some u:=fun j u h=>by rw[G5.cell (p:=⟨cb,0+j,none⟩) EX];exact BJ.out j u h
   have ai6:=ag YY;have lo4:w2.cell? ⟨w.heap.size+1,4,none⟩=some (.slice (some ⟨cb,0,none⟩) n cc):=(cr _ _ _ _ _ _ gq).trans rfl;have BK:=ag oH;have pH:=ag gq;clear nt G5 YY oH gq c3 g0 g1 o0 o1 o2 o3 o4 o5;go_wp2_with (at_builtin;go_loud (refine uM rfl (.const (.slice none 0 0)) (.tmp 54) 47 rfl underlying47 hi fV gF gG rfl (Nat.succ_pos 2) (by decide) rfl cb 0 n cc rfl (bT fT 0 o.cases) tP.out ai6.out (vU _ _) vN xS ?_;intro cap w3 hown bX;have Vu:=bX.size;rw[hsz]at hown Vu;have oH:w3.heap[w.heap.size]?=_:=(bX.block _ (by omega) (by simp)).trans BK.out;have gq:w3.heap[w.heap.size+1]?=_:=(bX.block _ (by omega) (by simp)).trans pH.out;have yJ:Below w.heap.size w w3:=mq.out.grown bX mq.out.size (by intro k hk;cases hk);obtain⟨tK,nv⟩:=dA yJ hown;have fl4:w3.frozen? ⟨w.heap.size+1,4,none⟩=false:=iM _ _ _ _ _ gq;have l0:w3.cell? ⟨w.heap.size+1,0,none⟩=some (I o.ai):=(cr _ _ _ _ _ _ gq).trans rfl;have l1:w3.cell? ⟨w.heap.size+1,1,none⟩=some (I o.ch):=(cr _ _ _ _ _ _ gq).trans rfl;have l2:w3.cell? ⟨w.heap.size+1,2,none⟩=some (I o.n):=(cr _ _ _ _ _ _ gq).trans rfl;have l3:w3.cell? ⟨w.heap.size+1,3,none⟩=some (I o.v):=(cr _ _ _ _ _ _ gq).trans rfl;have l4:w3.cell? ⟨w.heap.size+1,4,none⟩=some (.slice (some ⟨cb,0,none⟩) n cc):=(cr _ _ _ _ _ _ gq).trans rfl;have l5:w3.cell? ⟨w.heap.size+1,5,none⟩=some (B o.dG):=(cr _ _ _ _ _ _ gq).trans rfl;have r0:w3.cell? ⟨w.heap.size,0,none⟩=some (I 0):=(cr _ _ _ _ _ _ oH).trans rfl;have f0:w3.frozen? ⟨w.heap.size,0,none⟩=false:=iM _ _ _ _ _ oH;have r1:w3.cell? ⟨w.heap.size,1,none⟩=some (I 0):=(cr _ _ _ _ _ _ oH).trans rfl;have f1:w3.frozen? ⟨w.heap.size,1,none⟩=false:=iM _ _ _ _ _ oH;have r2:w3.cell? ⟨w.heap.size,2,none⟩=some (I 0):=(cr _ _ _ _ _ _ oH).trans rfl;have f2:w3.frozen? ⟨w.heap.size,2,none⟩=false:=iM _ _ _ _ _ oH;have r3:w3.cell? ⟨w.heap.size,3,none⟩=some (I 0):=(cr _ _ _ _ _ _ oH).trans rfl;have f3:w3.frozen? ⟨w.heap.size,3,none⟩=false:=iM _ _ _ _ _ oH;have r4:w3.cell? ⟨w.heap.size,4,none⟩=some (.slice none 0 0):=(cr _ _ _ _ _ _ oH).trans rfl;have f4:w3.frozen? ⟨w.heap.size,4,none⟩=false:=iM _ _ _ _ _ oH;have r5:w3.cell? ⟨w.heap.size,5,none⟩=some (B false):=(cr _ _ _ _ _ _ oH).trans rfl;have f5:w3.frozen? ⟨w.heap.size,5,none⟩=false:=iM _ _ _ _ _ oH;clear oH gq hown bX yJ lo4));refine bodyPost_ret (v:=.agg #[I o.ai,I o.ch,I o.n,I o.v,.slice (some ⟨w.heap.size+2,0,none⟩) n cap,B o.dG]) ?_ rfl ?_
   ·simp[results,Tryz.results92,go_sem,r0,r1,r2,r3,r4,r5]
   ·have h7:=((((((tK.out.setCell (p:=⟨w.heap.size+1,4,none⟩) (Nat.le_succ _) (.slice (some ⟨w.heap.size+2,0,none⟩) n cap)).setCell (p:=⟨w.heap.size,0,none⟩) cG (I o.ai)).setCell (p:=⟨w.heap.size,1,none⟩) cG (I o.ch)).setCell (p:=⟨w.heap.size,2,none⟩) cG (I o.n)).setCell (p:=⟨w.heap.size,3,none⟩) cG (I o.v)).setCell (p:=⟨w.heap.size,4,none⟩) cG (.slice (some ⟨w.heap.size+2,0,none⟩) n cap)).setCell (p:=⟨w.heap.size,5,none⟩) cG (B o.dG);have dD:=((nv.out.lt) (w.heap.size+2) rfl).2;refine⟨_,rfl,HR.out.heap h7,.inr ⟨w.heap.size+2,cap,H0.out,by rw[←HN.out],by omega,by simpa[World.setCell]using dD,fun jj c hjc=>?_⟩⟩;have j8:∀q v,(bT fT 0 o.cases)[q]?=some v→(((((((w3.setCell ⟨w.heap.size+1,4,none⟩ (.slice (some ⟨w.heap.size+2,0,none⟩) n cap)).setCell ⟨w.heap.size,0,none⟩ (I o.ai)).setCell ⟨w.heap.size,1,none⟩ (I o.ch)).setCell ⟨w.heap.size,2,none⟩ (I o.n)).setCell ⟨w.heap.size,3,none⟩ (I o.v)).setCell ⟨w.heap.size,4,none⟩ (.slice (some ⟨w.heap.size+2,0,none⟩) n cap)).setCell ⟨w.heap.size,5,none⟩ (B o.dG)).cell? ⟨w.heap.size+2,q,none⟩=some v:=(by intro q v hq;rw[World.cell?_setCell_other _ _ _ _ (by simp),World.cell?_setCell_other _ _ _ _ (by simp),World.cell?_setCell_other _ _ _ _ (by simp),World.cell?_setCell_other _ _ _ _ (by simp),World.cell?_setCell_other _ _ _ _ (by simp),World.cell?_setCell_other _ _ _ _ (by simp),World.cell?_setCell_other _ _ _ _ (by simp)];have Su:q<n*3:=(by rw[←tP.out];exact(cA hq));rw[nv.out.cellAt q Su];exact hq);have hg:=fun q hq=>fq (f:=fT) (k:=3) (fun _ _=>rfl) o.cases 0 jj q c hjc hq
    exact⟨j8 _ _ (hg 0 (by omega)),j8 _ _ (hg 1 (by omega)),j8 _ _ (hg 2 (by omega))⟩
 ·rw[iN kL];simp only[Option.getD_none];obtain⟨oa,oc,XE⟩:=mE R hx;rw[XE]at g0;have h1:x.at_<0∨(0≤x.at_∧(x.ops.length:Int)≤x.at_):=by omega
  obtain⟨n,hn⟩:=dC (x.ops.length);obtain⟨k,hk⟩:=dC (x.at_);rw[←hn]at g0 h1;rw[←hk]at g1 h1;clear R hx kL XE hn hk hc;unfold bR;go_enter func92,ntmps92;rcases h1 with h1|⟨h2,h1⟩
  ·have Ut:decide (k<0)=true:=by simpa using h1
   go_wp2;go_quiet (fail);go_wp2;refine bodyPost_ret (v:=.agg #[I 0,I 0,I 0,I 0,.slice none 0 0,B false]) ?_ rfl ?_
   ·simp[results,Tryz.results92,go_sem]
   ·have hB:Below w.heap.size w ((((((((w.alloc (.cells #[.int .i64 0,.int .i64 0,.int .i64 0,.int .i64 0,.slice none 0 0,.bool false] 49)).drewN nq).setCell ⟨w.heap.size,0,none⟩ (I 0)).setCell ⟨w.heap.size,1,none⟩ (I 0)).setCell ⟨w.heap.size,2,none⟩ (I 0)).setCell ⟨w.heap.size,3,none⟩ (I 0)).setCell ⟨w.heap.size,4,none⟩ (.slice none 0 0)).setCell ⟨w.heap.size,5,none⟩ (B false)):=
     (((((((below_drewN ((fp _ _).alloc cG _) _).setCell cG _).setCell cG _).setCell cG _).setCell cG _).setCell cG _).setCell cG _)
    exact⟨_,rfl,HR.out.heap hB,.inl ⟨rfl,rfl⟩⟩
  ·have Ut:decide (k<0)=false:=by simpa using h2
   have Rp:decide ((n:Int)≤k)=true:=(by simpa using h1);go_wp2;go_quiet (fail);go_wp2;refine bodyPost_ret (v:=.agg #[I 0,I 0,I 0,I 0,.slice none 0 0,B false]) ?_ rfl ?_
   ·simp[results,Tryz.results92,go_sem]
   ·have hB:Below w.heap.size w ((((((((w.alloc (.cells #[.int .i64 0,.int .i64 0,.int .i64 0,.int .i64 0,.slice none 0 0,.bool false] 49)).drewN nq).setCell ⟨w.heap.size,0,none⟩ (I 0)).setCell ⟨w.heap.size,1,none⟩ (I 0)).setCell ⟨w.heap.size,2,none⟩ (I 0)).setCell ⟨w.heap.size,3,none⟩ (I 0)).setCell ⟨w.heap.size,4,none⟩ (.slice none 0 0)).setCell ⟨w.heap.size,5,none⟩ (B false)):=
     (((((((below_drewN ((fp _ _).alloc cG _) _).setCell cG _).setCell cG _).setCell cG _).setCell cG _).setCell cG _).setCell cG _)
    exact⟨_,rfl,HR.out.heap hB,.inl ⟨rfl,rfl⟩⟩
end
section
variable{af:Nat}{F:Fx}{w:World}{m:Mem}{S:Wd}
theorem Mem.CO{m:Mem}{r:bH}{n:Nat}(R:bz af F w m S)(h:aj m S r≠[]):∃b,m.aV r=some b∧m.cU r n=.slice (some ⟨b,0,none⟩) n (m.cap r):=by
 obtain⟨b,hb⟩:=R.has h;exact⟨b,hb,Mem.de hb _⟩
theorem Ly(m:Mem)(r:bH)(n:Nat)(h:m.aV r=none→n=0):∃a c,m.cU r n=.slice a n c:=by
 cases hb:m.aV r with
 |none=>rw[h hb];exact⟨none,0,Mem.j6 hb _⟩
 |some b=>exact⟨_,_,Mem.de hb _⟩
theorem lL(R:bz af F w m S):∃a c,m.cU .dQ S.aq.length=.slice a S.aq.length c:=
 Ly _ _ _ fun h=>by have:=R.none_ _ h;simpa[aj]using this
theorem At.owner{m0:Mem}{w0:World}(A:At af F m0 w0 m w S){ob j:Nat}{v:Int}(hb:m.aV .dQ=some ob):At af F m0 w0 m (w.setCell ⟨ob,j,none⟩ (I v)) {S with aq:=S.aq.set j v}:=by
 refine A.set hb (by simp[aj,List.map_set]) ?_;intro r' hT
 cases r'<;>first|exact aX rfl hT|rfl|(simp only[aj,kI];done)
theorem EY(R:bz af F w m S)(l who:Int):Calls prog 169 #[.pointer (some ⟨F.dY,0,none⟩),I l,I who] w (eL (.bool (ek S.aq l who).2) fun w'=>At af F m w m w' {S with aq:=(ek S.aq l who).1}):=by
 have c0:=R.sM;have HR:=ag (At.refl R);by_cases kL:0≤l∧l<S.aq.length
 ·obtain⟨j,rfl⟩:∃j:Nat,l=j:=⟨l.toNat,by omega⟩;have hj:j<S.aq.length:=by omega
  have hx:S.aq[j]?=some S.aq[j]:=fv hj;obtain⟨x,AF⟩:=dC (S.aq[j]);rw[←AF]at hx;obtain⟨ob,jz,hh⟩:=Mem.CO (r:=.dQ) (n:=S.aq.length) R (by simp[aj];intro e;rw[e]at hj;simp at hj);rw[hh]at c0;have c1:w.cell? ⟨ob,j,none⟩=some (I x):=R.cell jz (by simp[aj,hx]);have f1:=R.frozen jz j;unfold ek;rw[eR,hx];by_cases h3:who<0
  ·rw[aE (by omega)];clear R kL hh AF hx jz;go_enter func169,ntmps169;go_wp2;go_ret;exact⟨rfl,HR.out⟩
  by_cases h4:x= -1
  ·subst h4;rw[aF ⟨by omega,by omega,rfl⟩];have HR':=ag (HR.out.owner (j:=j) (v:=who) jz);clear R kL hh AF hx jz;go_enter func169,ntmps169;go_wp2;go_ret;exact⟨rfl,HR'.out⟩
  ·rw[aE (by rintro⟨_,_,h⟩;exact h4 (mx h))];have R8:(x != -1)=true:=by simpa using h4
   clear R kL hh AF hx jz;go_enter func169,ntmps169;go_wp2;go_ret;exact⟨rfl,HR.out⟩
 ·obtain⟨a,c,hh⟩:=lL R;rw[hh]at c0;unfold ek;rw[iN kL,aE (by simp)];have h1:l<0∨(S.aq.length:Int)≤l:=by omega
  clear R kL hh;go_enter func169,ntmps169;rcases h1 with h1|h1
  ·go_wp2;go_ret;exact⟨rfl,HR.out⟩
  ·by_cases h2:l<0
   ·go_wp2;go_ret;exact⟨rfl,HR.out⟩
   ·go_wp2;go_ret;exact⟨rfl,HR.out⟩
theorem Lz(R:bz af F w m S)(l who:Int):Calls prog 156 #[.pointer (some ⟨F.dY,0,none⟩),I l,I who] w (eL (.bool (oB S.aq l who).2) fun w'=>At af F m w m w' {S with aq:=(oB S.aq l who).1}):=by
 have c0:=R.sM;have HR:=ag (At.refl R);by_cases kL:0≤l∧l<S.aq.length
 ·obtain⟨j,rfl⟩:∃j:Nat,l=j:=⟨l.toNat,by omega⟩;have hj:j<S.aq.length:=by omega
  have hx:S.aq[j]?=some S.aq[j]:=fv hj;obtain⟨x,AF⟩:=dC (S.aq[j]);rw[←AF]at hx;obtain⟨ob,jz,hh⟩:=Mem.CO (r:=.dQ) (n:=S.aq.length) R (by simp[aj];intro e;rw[e]at hj;simp at hj);rw[hh]at c0;have c1:w.cell? ⟨ob,j,none⟩=some (I x):=R.cell jz (by simp[aj,hx]);have f1:=R.frozen jz j;unfold oB;rw[eR,hx];by_cases h3:who<0
  ·rw[aE (by omega)];clear R kL hh AF hx jz;go_enter func156,ntmps156;go_wp2;go_ret;exact⟨rfl,HR.out⟩
  by_cases h4:x=who
  ·subst h4;rw[aF ⟨by omega,by omega,rfl⟩];have HR':=ag (HR.out.owner (j:=j) (v:= -1) jz);clear R kL hh AF hx jz;go_enter func156,ntmps156;go_wp2;go_ret;exact⟨rfl,HR'.out⟩
  ·rw[aE (by rintro⟨_,_,h⟩;exact h4 (mx h))];have R8:(x !=who)=true:=by simpa using h4
   clear R kL hh AF hx jz;go_enter func156,ntmps156;go_wp2;go_ret;exact⟨rfl,HR.out⟩
 ·obtain⟨a,c,hh⟩:=lL R;rw[hh]at c0;unfold oB;rw[iN kL,aE (by simp)];have h1:l<0∨(S.aq.length:Int)≤l:=by omega
  clear R kL hh;go_enter func156,ntmps156;rcases h1 with h1|h1
  ·go_wp2;go_ret;exact⟨rfl,HR.out⟩
  ·by_cases h2:l<0
   ·go_wp2;go_ret;exact⟨rfl,HR.out⟩
   ·go_wp2;go_ret;exact⟨rfl,HR.out⟩
theorem Ih(R:bz af F w m S)(l:Int):Calls prog 55 #[.pointer (some ⟨F.dY,0,none⟩),I l] w (eL (I (owner S.aq l)) fun w'=>w=w'):=by
 have c0:=R.sM;by_cases kL:0≤l∧l<S.aq.length
 ·obtain⟨j,rfl⟩:∃j:Nat,l=j:=⟨l.toNat,by omega⟩;have hj:j<S.aq.length:=by omega
  have hx:S.aq[j]?=some S.aq[j]:=fv hj;obtain⟨x,AF⟩:=dC (S.aq[j]);rw[←AF]at hx;obtain⟨ob,jz,hh⟩:=Mem.CO (r:=.dQ) (n:=S.aq.length) R (by simp[aj];intro e;rw[e]at hj;simp at hj);rw[hh]at c0;have c1:w.cell? ⟨ob,j,none⟩=some (I x):=R.cell jz (by simp[aj,hx]);unfold owner;rw[eR,hx];clear R kL hh AF hx jz;go_enter func55,ntmps55;go_wp2;go_ret;exact⟨rfl,rfl⟩
 ·obtain⟨a,c,hh⟩:=lL R;rw[hh]at c0;unfold owner;rw[iN kL];have h1:l<0∨(0≤l∧(S.aq.length:Int)≤l):=by omega
  clear R kL hh;go_enter func55,ntmps55;rcases h1 with h1|⟨h0,h1⟩
  all_goals
   go_wp2;go_ret;exact⟨rfl,rfl⟩
theorem AI(R:bz af F w m S):Calls prog 201 #[.pointer (some ⟨F.dY,0,none⟩)] w (eL (I S.aq.length) fun w'=>w=w'):=by
 have c0:=R.sM;obtain⟨a,c,hh⟩:=lL R;rw[hh]at c0;clear R hh;go_enter func201,ntmps201;go_wp2;go_ret;exact⟨rfl,rfl⟩
end
section
variable{af:Nat}{F:Fx}{w w0:World}{m m0:Mem}{S:Wd}
theorem Od(A:At af F m0 w0 m w S)(g:Nat){x:bI}(hx:S.gs[g]?=some x)(hc:(dH S g).cases.length≤1000):Calls prog 92 #[bR F,I g] w fun e w'=>(∃cv,e=.returned (.agg #[I (dH S g).ai,I (dH S g).ch,I (dH S g).n,I (dH S g).v,cv,B (dH S g).dG])∧dm w.heap.size w' cv (dH S g).cases)∧At af F m0 w0 m w' S:=
 (St A.bj g x hx hc).mono fun e w' ⟨cv,h1,h2,h3⟩=>⟨⟨cv,h1,h3⟩,A.cont h2⟩
theorem LA(R:bz af F w m S)(g:Nat)(l:Int)(S':Wd)(hm:Mach.lock S g l=some S')(hc:(dH S g).cases.length≤1000)(hx:∃x,S.gs[g]?=some x):Calls prog 155 #[bR F,I g,I l] w (ee fun w'=>At af F m w m w' S'):=by
 obtain⟨x,hx⟩:=hx;have HT:=ag (EY R l g);have HR:=ag (At.refl R);have c7:=R.pC;have Ii:=Sc;unfold Mach.lock at hm;by_cases eK:(ek S.aq l g).2=true
 ·rw[aF eK]at hm;rw[eK]at HT;unfold fL at hm;rw[hx]at hm;simp only[km]at hm
  cases hm;have ho:dH ({S with aq:=(ek S.aq l g).1}:Wd) g=dH S g:=rfl
  have eM:=cA hx;have HX:Hid (({S with aq:=(ek S.aq l g).1}:Wd).gs[g]?=some x):=hx;have HC:Hid ((dH ({S with aq:=(ek S.aq l g).1}:Wd) g).cases.length≤1000):=by rw[ho];exact hc
  by_cases hk:(dH S g).ai=6
  ·rw[aF hk];have HK:Hid ((dH ({S with aq:=(ek S.aq l g).1}:Wd) g).ai=6):=by rw[ho];exact hk
   clear R hx eK hk hc ho;unfold bR;go_enter func155,ntmps155;go_wp2_with (first|(go_at_call 169;refine HT.out.mono ?_;rintro e w2 ⟨rfl,A2⟩;have nx:=ag A2;clear A2)|(go_at_call 92;refine(Od nx.out g HX.out HC.out).mono ?_;rw[HK.out];rintro e w3 ⟨⟨cv,rfl,_⟩,A3⟩;have R3:=A3.bj;have c3:=R3.eu;have p2:=R3.g HX.out 2 _ rfl;have wW:=R3.frozen R3.aB.gs (g*25+2);have A5:=A3.g HX.out {x with ae:=21} (q:=2) (v:=I 21);have vV:=ag A5;clear A3 A5 R3));go_end0;exact⟨rfl,vV.out⟩
  ·rw[aE hk];obtain⟨kd,LB⟩:=dC ((dH S g).ai);have HK:Hid ((dH ({S with aq:=(ek S.aq l g).1}:Wd) g).ai=kd):=by rw[ho];exact LB.symm
   have hb:(kd==6)=false:=(by rw[LB];simpa using hk);clear R hx eK hk hc ho LB;unfold bR;go_enter func155,ntmps155;go_wp2_with (first|(go_at_call 169;refine HT.out.mono ?_;rintro e w2 ⟨rfl,A2⟩;have nx:=ag A2;clear A2)|(go_at_call 92;refine(Od nx.out g HX.out HC.out).mono ?_;rw[HK.out];rintro e w3 ⟨⟨cv,rfl,_⟩,A3⟩;have R3:=A3.bj;have c3:=R3.eu;have p2:=R3.g HX.out 2 _ rfl;have wW:=R3.frozen R3.aB.gs (g*25+2);have A5:=A3.g HX.out {x with ae:=5} (q:=2) (v:=I 5);have vV:=ag A5;clear A3 A5 R3));go_end0;exact⟨rfl,vV.out⟩
 ·rw[aE eK]at hm
  cases hm;have CP:(ek S.aq l g).2=false:=by simpa using eK
  have he:(ek S.aq l g).1=S.aq:=by
   unfold ek at eK ⊢;split
   ·rename_i h;rw[aF h]at eK;simp at eK
   ·rfl
  rw[CP,he]at HT;clear R hx eK CP he hc;unfold bR;go_enter func155,ntmps155;go_wp2_with (go_at_call 169;refine HT.out.mono ?_;rintro e w2 ⟨rfl,A2⟩;have nx:=ag A2;clear A2);refine bodyPost_ret (results_none rfl _ _ _) rfl ?_;exact⟨rfl,nx.out⟩
end
section
variable{af:Nat}{F:Fx}{w:World}{m:Mem}{S:Wd}
theorem sP{b:List (Int×Bool)}{g:Int}(h:bU b g≠2):∃j:Nat,g=j∧j<b.length∧b[j]?=some (bU b g,token b g):=by
 by_cases kL:0≤g∧g<b.length
 ·obtain⟨j,rfl⟩:∃j:Nat,g=j:=⟨g.toNat,by omega⟩;obtain⟨x,hx⟩:∃x,b[j]?=some x:=⟨_,fv (by omega)⟩;exact⟨j,rfl,by omega,by simp[bU,token,eR,hx]⟩
 ·exact aX (by simp[bU,iN kL]) h
theorem gZ(R:bz af F w m S)(g:Int):Calls prog 50 #[.pointer (some ⟨F.dB,0,none⟩),I g] w (eL (I (bU S.ax g)) fun w'=>w=w'):=by
 have c0:=R.Bu;unfold bU;by_cases kL:0≤g∧g<S.ax.length
 ·obtain⟨j,rfl⟩:∃j:Nat,g=j:=⟨g.toNat,by omega⟩;have hj:j<S.ax.length:=by omega
  obtain⟨⟨st,tk⟩,hx⟩:∃x,S.ax[j]?=some x:=⟨_,fv hj⟩;obtain⟨e0,e1⟩:=R.one hx;rw[eR,hx];clear R kL hx;go_enter func50,ntmps50;go_wp2;go_ret;exact⟨rfl,rfl⟩
 ·rw[iN kL];have h1:g<0∨(0≤g∧(S.ax.length:Int)≤g):=by omega
  clear R kL;go_enter func50,ntmps50;rcases h1 with h1|⟨h0,h1⟩
  ·go_wp2;go_ret;exact⟨rfl,rfl⟩
  ·have hd:decide (g<(S.ax.length:Int))=false:=by simpa using h1
   go_wp2;go_ret;exact⟨rfl,rfl⟩
theorem Ij(R:bz af F w m S)(g:Int):Calls prog 51 #[.pointer (some ⟨F.dB,0,none⟩),I g] w (eL (.bool (token S.ax g)) fun w'=>w=w'):=by
 have c0:=R.Bu;unfold token;by_cases kL:0≤g∧g<S.ax.length
 ·obtain⟨j,rfl⟩:∃j:Nat,g=j:=⟨g.toNat,by omega⟩;have hj:j<S.ax.length:=by omega
  obtain⟨⟨st,tk⟩,hx⟩:∃x,S.ax[j]?=some x:=⟨_,fv hj⟩;obtain⟨e0,e1⟩:=R.one hx;rw[eR,hx];clear R kL hx;go_enter func51,ntmps51;go_wp2;go_ret;exact⟨rfl,rfl⟩
 ·rw[iN kL];have h1:g<0∨(0≤g∧(S.ax.length:Int)≤g):=by omega
  clear R kL;go_enter func51,ntmps51;rcases h1 with h1|⟨h0,h1⟩
  ·go_wp2;go_ret;exact⟨rfl,rfl⟩
  ·have hd:decide (g<(S.ax.length:Int))=false:=by simpa using h1
   go_wp2;go_ret;exact⟨rfl,rfl⟩
theorem LC(R:bz af F w m S)(g:Int):Calls prog 157 #[.pointer (some ⟨F.dB,0,none⟩),I g] w (eL (.bool (tD S.ax g).2) fun w'=>At af F m w m w' {S with ax:=(tD S.ax g).1}):=by
 have c0:=R.Bu;have pI:=ag (fun W (R:bz af F W m S)=>gZ R g);have HR:=ag (At.refl R);unfold tD;by_cases h0:bU S.ax g=0
 ·obtain⟨j,rfl,hj,hx⟩:=sP (b:=S.ax) (g:=g) (by omega);rw[h0]at hx pI;rw[aE (by rw[h0];simp)];obtain⟨tk,xT⟩:=dC (token S.ax (j:Int));rw[←xT]at hx;rw[←xT];obtain⟨e0,e1⟩:=R.one hx;have f0:=R.frozen R.aB.ax (j*2);have f1:=R.frozen R.aB.ax (j*2+1);have HX:=ag hx;clear R hx h0 xT
  cases tk
  ·rw[aE (by simp)];have Ap:=ag (HR.out.one (q:=0) HX.out (1,false) (by omega) (v:=I 1) rfl);go_enter func157,ntmps157;go_wp2_with fail
   refine(pI.out _ HR.out.bj).mono ?_;rintro e w' ⟨rfl,rfl⟩;go_wp2;go_ret;exact⟨rfl,Ap.out⟩
  ·rw[aF rfl];have Ap:=ag (HR.out.one (q:=1) HX.out (0,false) (by omega) (v:=B false) rfl);go_enter func157,ntmps157;go_wp2_with fail
   refine(pI.out _ HR.out.bj).mono ?_;rintro e w' ⟨rfl,rfl⟩;go_wp2;go_ret;exact⟨rfl,Ap.out⟩
 ·rw[aF h0];obtain⟨st,EZ⟩:∃st,st=bU S.ax g:=⟨_,rfl⟩;rw[←EZ]at pI h0;have hb:(st==0)=false:=by simpa using h0
  have ff:(st !=0)=true:=by simpa using h0
  clear R EZ;go_enter func157,ntmps157;go_wp2_with fail
  refine(pI.out _ HR.out.bj).mono ?_;rintro e w' ⟨rfl,rfl⟩;go_wp2;go_ret;exact⟨rfl,HR.out⟩
theorem Ik(R:bz af F w m S)(g:Int):Calls prog 160 #[.pointer (some ⟨F.dB,0,none⟩),I g] w (eL (.bool (ready S.ax g).2) fun w'=>At af F m w m w' {S with ax:=(ready S.ax g).1}):=by
 have c0:=R.Bu;have pI:=ag (fun W (R:bz af F W m S)=>gZ R g);have HR:=ag (At.refl R);unfold ready;by_cases h1:bU S.ax g=1
 ·obtain⟨j,rfl,hj,hx⟩:=sP (b:=S.ax) (g:=g) (by omega);rw[h1]at hx pI;rw[aF h1];obtain⟨tk,xT⟩:=dC (token S.ax (j:Int));rw[←xT]at hx;rw[←xT];obtain⟨e0,e1⟩:=R.one hx;have f0:=R.frozen R.aB.ax (j*2);have Ap:=ag (HR.out.one (q:=0) hx (0,tk) (by omega) (v:=I 0) rfl);clear R hx h1 xT;go_enter func160,ntmps160;go_wp2_with fail
  refine(pI.out _ HR.out.bj).mono ?_;rintro e w' ⟨rfl,rfl⟩;go_wp2;go_ret;exact⟨rfl,Ap.out⟩
 ·by_cases h0:bU S.ax g=0
  ·obtain⟨j,rfl,hj,hx⟩:=sP (b:=S.ax) (g:=g) (by omega);rw[aE h1];rw[h0]at hx pI;obtain⟨tk,xT⟩:=dC (token S.ax (j:Int));rw[←xT]at hx;rw[←xT,h0];obtain⟨e0,e1⟩:=R.one hx;have f1:=R.frozen R.aB.ax (j*2+1);have HX:=ag hx;clear R hx h0 xT h1
   cases tk
   ·rw[aF ⟨rfl,rfl⟩];have Ap:=ag (HR.out.one (q:=1) HX.out (0,true) (by omega) (v:=B true) rfl);go_enter func160,ntmps160;go_wp2_with fail
    refine(pI.out _ HR.out.bj).mono ?_;rintro e w' ⟨rfl,rfl⟩;go_wp2;go_ret;exact⟨rfl,Ap.out⟩
   ·rw[aE (by simp)];go_enter func160,ntmps160;go_wp2_with fail
    refine(pI.out _ HR.out.bj).mono ?_;rintro e w' ⟨rfl,rfl⟩;go_wp2;go_ret;exact⟨rfl,HR.out⟩
  ·rw[aE h1,aE (by rintro⟨h,_⟩;exact h0 h)];obtain⟨st,EZ⟩:∃st,st=bU S.ax g:=⟨_,rfl⟩;rw[←EZ]at pI h0 h1;have oH:(st==0)=false:=by simpa using h0
   have gq:(st==1)=false:=(by simpa using h1);clear R EZ;go_enter func160,ntmps160;go_wp2_with fail
   refine(pI.out _ HR.out.bj).mono ?_;rintro e w' ⟨rfl,rfl⟩;go_wp2;go_ret;exact⟨rfl,HR.out⟩
end
end Go.Proofs.YtadifmnmfnihdaaGreat
