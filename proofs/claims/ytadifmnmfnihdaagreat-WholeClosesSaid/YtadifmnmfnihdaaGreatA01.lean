import Derived.Test.YtadifmnmfnihdaaGreatA00
set_option linter.all false
set_option maxRecDepth 100000
set_option maxHeartbeats 40000000
namespace Go.Proofs.YtadifmnmfnihdaaGreat
open Go.RowKit Mach
def up{κ α:Type}[DecidableEq κ](f:κ→α)(k:κ)(x:α):κ→α:=fun k'=>if k'=k then x else f k'
theorem bq{κ α:Type}[DecidableEq κ](f:κ→α)(k:κ)(x:α):up f k x k=x:=by simp[up]
theorem aD{κ α:Type}[DecidableEq κ](f:κ→α){k k':κ}(x:α)(h:k'≠k):up f k x k'=f k':=by simp[up,h]
structure cN{κ:Type}(lo:Nat)(w0 w:World)(aV:κ→Option Nat)(ty:κ→Option (Nat×Nat))(cap:κ→Nat)(c:κ→List Value):Prop where
 below:Below lo w0 w
 tL:lo≤w.heap.size
 inj:∀k k' b,aV k=some b→aV k'=some b→k=k'
 lies:∀k b,aV k=some b→lo≤b∧gl w b (ty k) (cap k) (c k)
 none_:∀k,aV k=none→c k=[]
def nG(b:Option Nat)(n c:Nat):Value:=match b with|none=> .slice none 0 0|some b=> .slice (some ⟨b,0,none⟩) n c
theorem qC(m:Mem)(r:bH)(n:Nat):m.cU r n=nG (m.aV r) n (m.cap r):=by unfold Mem.cU nG;cases m.aV r<;>rfl
theorem gV(b:Option Nat)(n c:Nat):(nG b n c).ownBlock=b:=by cases b<;>rfl
section
variable{κ:Type}{lo:Nat}{w0 w w':World}{aV:κ→Option Nat}{ty:κ→Option (Nat×Nat)}{cap:κ→Nat}{c:κ→List Value}
theorem cN.lt(H:cN lo w0 w aV ty cap c){k:κ}{b:Nat}(h:aV k=some b):b<w.heap.size:=(H.lies k b h).2.lt
theorem cN.cell(H:cN lo w0 w aV ty cap c){k:κ}{b j:Nat}{v:Value}(h:aV k=some b)(hv:(c k)[j]?=some v):w.cell? ⟨b,j,none⟩=some v:=(H.lies k b h).2.cell j v hv
theorem cN.frozen(H:cN lo w0 w aV ty cap c){k:κ}{b:Nat}(h:aV k=some b)(j:Nat):w.frozen? ⟨b,j,none⟩=false:=(H.lies k b h).2.frozen j
theorem cN.eC(H:cN lo w0 w aV ty cap c)(hb:Below w.heap.size w w'):cN lo w0 w' aV ty cap c:=
 ⟨H.below.trans (hb.mono H.tL),jm H.tL hb.size,H.inj,fun k b h=>⟨(H.lies k b h).1,(H.lies k b h).2.other (hb.block b (H.lt h))⟩,H.none_⟩
theorem cN.drew(H:cN lo w0 w aV ty cap c):cN lo w0 w.drew aV ty cap c:=H.eC (fp _ _).drew
theorem cN.alloc(H:cN lo w0 w aV ty cap c)(o:Obj):cN lo w0 (w.alloc o) aV ty cap c:=H.eC ((fp _ _).alloc cG o)
theorem cN.nil(lo:Nat)(w:World)(h:lo≤w.heap.size)(ty:κ→Option (Nat×Nat)):cN lo w w (fun _=>none) ty (fun _=>0) (fun _=>[]):=
 ⟨fp _ _,h,fun _ _ _ h=>bk0,fun _ _ h=>bk0,fun _ _=>rfl⟩
theorem cN.congr(H:cN lo w0 w aV ty cap c){c':κ→List Value}(h:∀k,c' k=c k):cN lo w0 w aV ty cap c':=by
 have:c'=c:=funext h;rw[this];exact H
theorem cN.other(H:cN lo w0 w aV ty cap c){a:Addr}(hn:∀k,aV k≠some a.block)(h0:lo≤a.block)(v:Value):cN lo w0 (w.setCell a v) aV ty cap c:=
 ⟨H.below.setCell h0 v,bs7,H.inj,fun k b h=>⟨(H.lies k b h).1,(H.lies k b h).2.other (fQ _ _ _ _ (fun e=>hn k (e▸h)))⟩,H.none_⟩
theorem cN.owns(H:cN lo w0 w aV ty cap c){k:κ}{p:Nat×Nat}(nI:ty k=some p)(h0:0<p.2){n:Nat}(hn:(c k).length=n*p.2):w.ownsRow lo p.1 p.2 (nG (aV k) n (cap k)) n (c k):=by
 cases hb:aV k with
 |none=>
  have:=H.none_ k hb;rw[this]at hn ⊢
  have:n=0:=by
   exact be9
  subst this;exact World.ownsRow_nil _ _ _ _
 |some b=>
  obtain⟨hg,arr,t,h1,h2,h3,h4⟩:=H.lies k b hb;obtain⟨rfl,h5,h6⟩:=h4 p nI;refine⟨hn,.inr ⟨b,cap k,arr,rfl,hg,h1,?_,h6,h5,by rw[←hn];exact h3⟩⟩;rw[hn,h5]at h2;exact Nat.le_of_mul_le_mul_right h2 h0
variable[DecidableEq κ]
section
variable(H:cN lo w0 w aV ty cap c){r:κ}
include H
theorem cN.row{p:Nat×Nat}{g n cp:Nat}{xs:List Value}(nI:∀q,ty r=some q→q=p)(hg:w.grownBy w' (aV r))(hown:w'.ownsRow lo p.1 p.2 (.slice (some ⟨g,0,none⟩) n cp) n xs)(bE:aV r=some g∨w.heap.size≤g):cN lo w0 w' (up aV r (some g)) ty (up cap r cp) (up c r xs):=by
 have qw:∀r' b',r'≠r→aV r'=some b'→b'≠g:=by
  intro r' b' h1 h2 e;subst e;rcases bE with h|h
  ·exact h1 (H.inj r' r _ h2 h)
  ·exact aX (H.lt h2) oX
 obtain⟨yp,rJ⟩:=gl.kg (ty:=ty r) nI hown;refine⟨H.below.grown hg H.tL (fun k hk=>(H.lies r k hk).1),jm H.tL hg.size,fun r1 r2 b' h1 h2=>?_,fun r' b' ff=>?_,fun r' hT=>?_⟩
 ·by_cases e1:r1=r<;>by_cases e2:r2=r
  ·rw[e1,e2]
  ·subst e1;rw[bq]at h1;rw[aD _ _ e2]at h2
   cases h1;exact aX rfl (qw r2 _ e2 h2)
  ·subst e2;rw[bq]at h2;rw[aD _ _ e1]at h1
   cases h2;exact aX rfl (qw r1 _ e1 h1)
  ·exact bc4
 ·by_cases e1:r'=r
  ·subst e1;rw[bq]at ff
   cases ff;rw[bq,bq];exact⟨yp,rJ⟩
  ·rw[aD _ _ e1]at ff;rw[aD _ _ e1,aD _ _ e1];exact⟨(H.lies _ _ ff).1,(H.lies _ _ ff).2.other (hg.block b' (H.lt ff) (fun e=>e1 (H.inj r' r _ ff e.symm)))⟩
 ·exact aZ8
theorem cN.add{b cp:Nat}{xs:List Value}(hb:Below w.heap.size w w')(h0:w.heap.size≤b)(hl:gl w' b (ty r) cp xs):cN lo w0 w' (up aV r (some b)) ty (up cap r cp) (up c r xs):=by
 have H':=H.eC hb;refine⟨H'.below,H'.tL,fun r1 r2 b' h1 h2=>?_,fun r' b' ff=>?_,fun r' hT=>?_⟩
 ·by_cases e1:r1=r<;>by_cases e2:r2=r
  ·rw[e1,e2]
  ·subst e1;rw[bq]at h1;rw[aD _ _ e2]at h2
   cases h1;exact aX (H.lt h2) oX
  ·subst e2;rw[bq]at h2;rw[aD _ _ e1]at h1
   cases h2;exact aX (H.lt h1) oX
  ·exact bc4
 ·by_cases e1:r'=r
  ·subst e1;rw[bq]at ff
   cases ff;rw[bq,bq];exact⟨jm H.tL h0,hl⟩
  ·rw[aD _ _ e1]at ff;rw[aD _ _ e1,aD _ _ e1];exact H'.lies _ _ ff
 ·exact aZ8
theorem cN.put{b cp:Nat}{xs:List Value}(h0:lo≤b)(cM:∀k b',aV k=some b'→b'≠b)(hl:gl w b (ty r) cp xs):cN lo w0 w (up aV r (some b)) ty (up cap r cp) (up c r xs):=by
 refine⟨H.below,H.tL,fun r1 r2 b' h1 h2=>?_,fun r' b' ff=>?_,fun r' hT=>?_⟩
 ·by_cases e1:r1=r<;>by_cases e2:r2=r
  ·rw[e1,e2]
  ·subst e1;rw[bq]at h1;rw[aD _ _ e2]at h2
   cases h1;exact aX rfl (cM _ _ h2)
  ·subst e2;rw[bq]at h2;rw[aD _ _ e1]at h1
   cases h2;exact aX rfl (cM _ _ h1)
  ·exact bc4
 ·by_cases e1:r'=r
  ·subst e1;rw[bq]at ff
   cases ff;rw[bq,bq];exact⟨h0,hl⟩
  ·rw[aD _ _ e1]at ff;rw[aD _ _ e1,aD _ _ e1];exact H.lies _ _ ff
 ·exact aZ8
end
theorem cN.set(H:cN lo w0 w aV ty cap c){r:κ}{b j:Nat}{v:Value}(hb:aV r=some b):cN lo w0 (w.setCell ⟨b,j,none⟩ v) aV ty cap (up c r ((c r).set j v)):=by
 refine⟨H.below.setCell (H.lies r b hb).1 v,bs7,H.inj,fun r' b' ff=>?_,fun r' hT=>?_⟩
 ·by_cases e1:r'=r
  ·subst e1;obtain rfl:b'=b:=by rw[hb]at ff;exact(mx ff).symm
   rw[bq];exact⟨(H.lies _ _ hb).1,(H.lies _ _ hb).2.set j v⟩
  ·rw[aD _ _ e1];exact⟨(H.lies _ _ ff).1,(H.lies _ _ ff).2.other (fQ _ _ _ _ (fun e=>e1 (H.inj r' r _ ff (by rw[hb,e]))))⟩
 ·have e1:r'≠r:=fun e=>by rw[e,hb]at hT;cases hT
  rw[aD _ _ e1];exact H.none_ r' hT
end
theorem cN.join{κ κ':Type}{lo:Nat}{w0 w w':World}{aV:κ→Option Nat}{ty:κ→Option (Nat×Nat)}{cap:κ→Nat}{c:κ→List Value}{tM:κ'→Option Nat}{YO:κ'→Option (Nat×Nat)}{pF:κ'→Nat}{c':κ'→List Value}(H:cN lo w0 w aV ty cap c)(H':cN w.heap.size w w' tM YO pF c'):cN lo w0 w' (Sum.elim aV tM) (Sum.elim ty YO) (Sum.elim cap pF) (Sum.elim c c'):=by
 have H2:=H.eC H'.below;refine⟨H2.below,H2.tL,fun k k' b h1 h2=>?_,fun k b h=>?_,fun k h=>?_⟩
 ·cases k<;>cases k'<;>simp only[Sum.elim_inl,Sum.elim_inr]at h1 h2
  ·rw[H.inj _ _ b h1 h2]
  ·exact aX (H.lt h1) (by have:=(H'.lies _ _ h2).1;omega)
  ·exact aX (H.lt h2) (by have:=(H'.lies _ _ h1).1;omega)
  ·rw[H'.inj _ _ b h1 h2]
 ·cases k
  ·exact H2.lies _ _ h
  ·exact⟨jm H.tL (H'.lies _ _ h).1,(H'.lies _ _ h).2⟩
 ·cases k
  ·exact H.none_ _ h
  ·exact H'.none_ _ h
theorem cN.map{κ κ':Type}{lo:Nat}{w0 w:World}{aV:κ→Option Nat}{ty:κ→Option (Nat×Nat)}{cap:κ→Nat}{c:κ→List Value}(H:cN lo w0 w aV ty cap c)(φ:κ'→κ)(hφ:∀a b,φ a=φ b→a=b):cN lo w0 w (fun k=>aV (φ k)) (fun k=>ty (φ k)) (fun k=>cap (φ k)) (fun k=>c (φ k)):=
 ⟨H.below,H.tL,fun k k' b h1 h2=>hφ _ _ (H.inj _ _ b h1 h2),fun k b h=>H.lies _ b h,fun k h=>H.none_ _ h⟩
theorem cN.less{κ:Type}{lo:Nat}{w0 w:World}{aV:κ→Option Nat}{ty YO:κ→Option (Nat×Nat)}{cap:κ→Nat}{c:κ→List Value}(H:cN lo w0 w aV ty cap c)(h:∀k p,YO k=some p→ty k=some p):cN lo w0 w aV YO cap c:=
 ⟨H.below,H.tL,H.inj,fun k b hb=>by obtain⟨h1,arr,t,h2,h3,h4,h5⟩:=H.lies k b hb;exact⟨h1,arr,t,h2,h3,h4,fun p hp=>h5 p (h k p hp)⟩,H.none_⟩
open Go.Proofs.Tryz
theorem Oc:(prog.info? 52).map (fun i=>(i.zero,i.size,i.bytes))=some (some (.agg #[.bool false,.int .i64 0,.int .i64 0]),3,24):=kX
def VP(af:Nat)(F:Fx)(m:Mem)(w:World)(S:Wd)(o:cu)(e:Ending)(w':World):Prop:=
 ∃cv,e=.returned (.agg #[I o.ai,I o.ch,I o.n,I o.v,cv,B o.dG])∧At af F m w m w' S∧dm w.heap.size w' cv o.cases
section
variable{af:Nat}{F:Fx}{w w0:World}{m m0:Mem}{S:Wd}
theorem nu{α:Type}{f:Nat→α→List Value}{k i:Nat}(hk:∀i x,(f i x).length=k)(h0:0<k){l:List α}(h:bT f i l=[]):l=[]:=by
 have h1:=aV9 hk l i;rw[h]at h1;rcases Nat.eq_zero_or_pos l.length with h2|h2
 ·exact xn h2
 ·have:=Nat.mul_pos h2 h0;simp at h1;omega
theorem bz.ops(R:bz af F w m S){g:Nat}{x:bI}(hx:S.gs[g]?=some x){j:Nat}{o:cu}(ho:x.ops[j]?=some o):∃ob,m.aV (.ops g)=some ob∧m.cU (.ops g) x.ops.length=.slice (some ⟨ob,0,none⟩) x.ops.length (m.cap (.ops g))∧∀q v,(Cu m g j o)[q]?=some v→w.cell? ⟨ob,j*6+q,none⟩=some v:=by
 have hc:aj m S (.ops g)=bT (Cu m g) 0 x.ops:=bn9
 have cM:aj m S (.ops g)≠[]:=by rw[hc];intro h;rw[nu (f:=Cu m g) (k:=6) (fun _ _=>rfl) dX h]at ho;simp at ho
 obtain⟨ob,jz⟩:=R.has cM;refine⟨ob,jz,Mem.de jz _,fun q v hq=>?_⟩;have h1:q<6:=cA hq;have h:=fq (f:=Cu m g) (k:=6) (fun _ _=>rfl) x.ops 0 j q o ho h1;rw[Nat.zero_add,hq]at h;exact R.cell jz (by rw[hc];exact h)
theorem bz.cases(R:bz af F w m S){g:Nat}{x:bI}(hx:S.gs[g]?=some x){j:Nat}{o:cu}(ho:x.ops[j]?=some o):∃a c,m.cU (.cases g j) o.cases.length=.slice a o.cases.length c∧(o.cases≠[]→∃cb,a=some ⟨cb,0,none⟩∧cb<w.heap.size∧∀k v,(bT fT 0 o.cases)[k]?=some v→w.cell? ⟨cb,0+k,none⟩=some v):=by
 have hc:aj m S (.cases g j)=bT fT 0 o.cases:=by simp only[aj,hx,ho]
 by_cases h0:o.cases=[]
 ·cases hb:m.aV (.cases g j) with
  |none=>exact⟨none,0,by rw[Mem.j6 hb,h0];rfl,fun h=>aX h0 h⟩
  |some b=>exact⟨_,_,Mem.de hb _,fun h=>aX h0 h⟩
 ·have cM:aj m S (.cases g j)≠[]:=by
   rw[hc];exact fun h=>h0 (nu (f:=fT) (k:=3) (fun _ _=>rfl) dX h)
  obtain⟨cb,fP⟩:=R.has cM;exact⟨_,_,Mem.de fP _,fun _=>⟨cb,rfl,R.lt fP,fun k v hk=>by rw[Nat.zero_add];exact R.cell fP (by rw[hc];exact hk)⟩⟩
theorem vU:∀(cs:List Case) (i:Nat),∀u∈bT fT i cs,u.oneCell'=true
 | [],_,_,h=>by simp[bT]at h
 |c::cs,i,u,h=>by
  simp only[bT,fT,sY,List.nil_append,iL]at h;rcases h with rfl|rfl|rfl|h
  ·rfl
  ·rfl
  ·rfl
  ·exact vU cs (i+1) u h
theorem mE(R:bz af F w m S){g:Nat}{x:bI}(hx:S.gs[g]?=some x):∃a c,m.cU (.ops g) x.ops.length=.slice a x.ops.length c:=
 R.shape (by simp only[aj,hx];intro h;rw[nu (f:=Cu m g) (k:=6) (fun _ _=>rfl) dX h];rfl)
theorem St(R:bz af F w m S)(g:Nat)(x:bI)(hx:S.gs[g]?=some x)(hc:(dH S g).cases.length≤1000):Calls prog 92 #[bR F,I g] w (VP af F m w S (dH S g)):=by
 have eM:=cA hx;have c3:=R.eu;have g0:=R.g0 hx;have g1:=R.g hx 1 _ rfl;obtain⟨aU,cm,aY,aZ⟩:=R.pB;have HR:=ag (At.refl R);obtain⟨i0,hi,fV,gF,gG⟩:=info_parts Oc;unfold dH at hc ⊢;simp only[hx,eN]at hc ⊢;by_cases kL:0≤x.at_∧x.at_<x.ops.length
 ·obtain⟨j,hj⟩:∃j:Nat,x.at_=j:=⟨x.at_.toNat,oX⟩;have vy:j<x.ops.length:=by omega
  obtain⟨o,ho⟩:∃o,x.ops[j]?=some o:=⟨_,fv vy⟩;rw[hj,eR,ho,Option.getD_some]at hc ⊢;obtain⟨ob,jz,XE,dj⟩:=R.ops hx ho;obtain⟨ca,cc,bO,YX⟩:=R.cases hx ho;have o0:w.cell? ⟨ob,j*6,none⟩=_:=dj 0 _ rfl;have o1:=dj 1 _ rfl;have o2:=dj 2 _ rfl;have o3:=dj 3 _ rfl;have o4:=dj 4 _ rfl;have o5:=dj 5 _ rfl;rw[bO]at o4;rw[XE]at g0;rw[hj]at g1;have aw4:=R.lt jz;have Ut:decide ((j:Int)<0)=false:=sX
  have Rp:decide ((x.ops.length:Int)≤(j:Int))=false:=bi8
  have hd3:decide (x.ops.length≤j)=false:=bi8
  obtain⟨n,hn⟩:=dC (o.cases.length);rw[←hn]at o4;have HN:=ag hn;have HO:=ag dj;by_cases h0:o.cases=[]
  ·have vN:n=0:=by rw[hn,h0];rfl
   subst vN;have H0:=ag h0;clear R hx hj kL ho jz XE dj bO YX hn hc h0;unfold bR;go_enter func92,ntmps92;go_wp2;go_quiet (fail);go_wp2;go_region;go_wp2_with (at_builtin;refine gO rfl (.const (.slice none 0 0)) (.tmp 54) 47 rfl underlying47 hi rfl ca cc rfl ?_);refine bodyPost_ret (v:=.agg #[I o.ai,I o.ch,I o.n,I o.v,.slice none 0 0,B o.dG]) ?_ rfl ?_
   ·simp[results,Tryz.results92,go_sem]
   ·have hB:Below w.heap.size w ((((((((w.alloc (.cells #[.int .i64 0,.int .i64 0,.int .i64 0,.int .i64 0,.slice none 0 0,.bool false] 49)).drewN (nq+1)).setCell ⟨w.heap.size,0,none⟩ (I o.ai)).setCell ⟨w.heap.size,1,none⟩ (I o.ch)).setCell ⟨w.heap.size,2,none⟩ (I o.n)).setCell ⟨w.heap.size,3,none⟩ (I o.v)).setCell ⟨w.heap.size,4,none⟩ (.slice none 0 0)).setCell ⟨w.heap.size,5,none⟩ (B o.dG)):=
     (((((((below_drewN ((fp _ _).alloc cG _) _).setCell cG _).setCell cG _).setCell cG _).setCell cG _).setCell cG _).setCell cG _)
    trace "c"
    exact⟨_,rfl,HR.out.heap (hB.alloc hB.size _),.inl ⟨H0,rfl⟩⟩
  ·have vN:0<n:=by rw[hn];exact pd h0
   obtain⟨cb,rfl,EX,fa⟩:=YX h0;have BJ:=ag fa;have H0:=ag h0;have xS:n<1000001:=oX;have gm:(bT fT 0 o.cases).length=n*3:=(by rw[aV9 (f:=fT) (k:=3) (fun _ _=>rfl),hn]);have tP:=ag gm;clear R hx hj kL ho jz XE dj bO YX hn hc h0 fa gm;unfold bR;go_enter func92,ntmps92;go_wp2;go_quiet (fail);go_wp2;go_region;generalize nt:((w.alloc (.cells #[.int .i64 0,.int .i64 0,.int .i64 0,.int .i64 0,.slice none 0 0,.bool false] 49)).drewN (nq+1)).alloc (.cells #[.int .i64 o.ai,.int .i64 o.ch,.int .i64 o.n,.int .i64 o.v,.slice (some ⟨cb,0,none⟩) n cc,.bool o.dG] 49)=w2;have oH:w2.heap[w.heap.size]?=some (.cells #[.int .i64 0,.int .i64 0,.int .i64 0,.int .i64 0,.slice none 0 0,.bool false] 49 (0,0)):=(by rw[←nt,gf _ _ _ sX];exact dP w _);have gq:w2.heap[w.heap.size+1]?=some (.cells #[.int .i64 o.ai,.int .i64 o.ch,.int .i64 o.n,.int .i64 o.v,.slice (some ⟨cb,0,none⟩) n cc,.bool o.dG] 49 (0,0)):=(by rw[←nt];have:=dP ((w.alloc (.cells #[.int .i64 0,.int .i64 0,.int .i64 0,.int .i64 0,.slice none 0 0,.bool false] 49)).drewN (nq+1)) (.cells #[.int .i64 o.ai,.int .i64 o.ch,.int .i64 o.n,.int .i64 o.v,.slice (some ⟨cb,0,none⟩) n cc,.bool o.dG] 49);simpa using this);have hsz:w2.heap.size=w.heap.size+2:=(by rw[←nt];simp);have G5:Below w.heap.size w w2:=(by rw[←nt];have h1:=below_drewN ((fp w.heap.size w).alloc cG (.cells #[.int .i64 0,.int .i64 0,.int .i64 0,.int .i64 0,.slice none 0 0,.bool false] 49)) (nq+1);exact h1.alloc h1.size _);have mq:=ag G5;have YY:∀j u,(bT fT 0 o.cases)[j]?=some u→w2.cell? ⟨cb,0+j,none⟩=some u:=fun j u h=>by rw[G5.cell (p:=⟨cb,0+j,none⟩) EX];exact BJ j u h
   have ai6:=ag YY;have lo4:w2.cell? ⟨w.heap.size+1,4,none⟩=some (.slice (some ⟨cb,0,none⟩) n cc):=(cr _ _ _ _ _ _ gq).trans rfl;have BK:=ag oH;have pH:=ag gq;clear nt G5 YY oH gq c3 g0 g1 o0 o1 o2 o3 o4 o5;go_wp2_with (at_builtin;go_loud (refine uM rfl (.const (.slice none 0 0)) (.tmp 54) 47 rfl underlying47 hi fV gF gG rfl (Nat.succ_pos 2) dX rfl cb 0 n cc rfl (bT fT 0 o.cases) tP ai6 (vU _ _) vN xS ?_;intro cap w3 hown bX;have Vu:=bX.size;rw[hsz]at hown Vu;have oH:w3.heap[w.heap.size]?=_:=(bX.block _ oX sX).trans BK;have gq:w3.heap[w.heap.size+1]?=_:=(bX.block _ oX sX).trans pH;have yJ:Below w.heap.size w w3:=mq.out.grown bX mq.out.size bj7;obtain⟨tK,nv⟩:=dA yJ hown;have fl4:w3.frozen? ⟨w.heap.size+1,4,none⟩=false:=iM _ _ _ _ _ gq;have l0:w3.cell? ⟨w.heap.size+1,0,none⟩=some (I o.ai):=(cr _ _ _ _ _ _ gq).trans rfl;have l1:w3.cell? ⟨w.heap.size+1,1,none⟩=some (I o.ch):=(cr _ _ _ _ _ _ gq).trans rfl;have l2:w3.cell? ⟨w.heap.size+1,2,none⟩=some (I o.n):=(cr _ _ _ _ _ _ gq).trans rfl;have l3:w3.cell? ⟨w.heap.size+1,3,none⟩=some (I o.v):=(cr _ _ _ _ _ _ gq).trans rfl;have l4:w3.cell? ⟨w.heap.size+1,4,none⟩=some (.slice (some ⟨cb,0,none⟩) n cc):=(cr _ _ _ _ _ _ gq).trans rfl;have l5:w3.cell? ⟨w.heap.size+1,5,none⟩=some (B o.dG):=(cr _ _ _ _ _ _ gq).trans rfl;have r0:w3.cell? ⟨w.heap.size,0,none⟩=some (I 0):=(cr _ _ _ _ _ _ oH).trans rfl;have f0:w3.frozen? ⟨w.heap.size,0,none⟩=false:=iM _ _ _ _ _ oH;have r1:w3.cell? ⟨w.heap.size,1,none⟩=some (I 0):=(cr _ _ _ _ _ _ oH).trans rfl;have f1:w3.frozen? ⟨w.heap.size,1,none⟩=false:=iM _ _ _ _ _ oH;have r2:w3.cell? ⟨w.heap.size,2,none⟩=some (I 0):=(cr _ _ _ _ _ _ oH).trans rfl;have f2:w3.frozen? ⟨w.heap.size,2,none⟩=false:=iM _ _ _ _ _ oH;have r3:w3.cell? ⟨w.heap.size,3,none⟩=some (I 0):=(cr _ _ _ _ _ _ oH).trans rfl;have f3:w3.frozen? ⟨w.heap.size,3,none⟩=false:=iM _ _ _ _ _ oH;have r4:w3.cell? ⟨w.heap.size,4,none⟩=some (.slice none 0 0):=(cr _ _ _ _ _ _ oH).trans rfl;have f4:w3.frozen? ⟨w.heap.size,4,none⟩=false:=iM _ _ _ _ _ oH;have r5:w3.cell? ⟨w.heap.size,5,none⟩=some (B false):=(cr _ _ _ _ _ _ oH).trans rfl;have f5:w3.frozen? ⟨w.heap.size,5,none⟩=false:=iM _ _ _ _ _ oH;clear oH gq hown bX yJ lo4));refine bodyPost_ret (v:=.agg #[I o.ai,I o.ch,I o.n,I o.v,.slice (some ⟨w.heap.size+2,0,none⟩) n cap,B o.dG]) ?_ rfl ?_
   ·simp[results,Tryz.results92,go_sem,r0,r1,r2,r3,r4,r5]
   ·have h7:=((((((tK.out.setCell (p:=⟨w.heap.size+1,4,none⟩) (Nat.le_succ _) (.slice (some ⟨w.heap.size+2,0,none⟩) n cap)).setCell (p:=⟨w.heap.size,0,none⟩) cG (I o.ai)).setCell (p:=⟨w.heap.size,1,none⟩) cG (I o.ch)).setCell (p:=⟨w.heap.size,2,none⟩) cG (I o.n)).setCell (p:=⟨w.heap.size,3,none⟩) cG (I o.v)).setCell (p:=⟨w.heap.size,4,none⟩) cG (.slice (some ⟨w.heap.size+2,0,none⟩) n cap)).setCell (p:=⟨w.heap.size,5,none⟩) cG (B o.dG);have dD:=((nv.out.lt) (w.heap.size+2) rfl).2;refine⟨_,rfl,HR.out.heap h7,.inr ⟨w.heap.size+2,cap,H0,by rw[←HN.out],oX,by simpa[World.setCell]using dD,fun jj c hjc=>?_⟩⟩;have j8:∀q v,(bT fT 0 o.cases)[q]?=some v→(((((((w3.setCell ⟨w.heap.size+1,4,none⟩ (.slice (some ⟨w.heap.size+2,0,none⟩) n cap)).setCell ⟨w.heap.size,0,none⟩ (I o.ai)).setCell ⟨w.heap.size,1,none⟩ (I o.ch)).setCell ⟨w.heap.size,2,none⟩ (I o.n)).setCell ⟨w.heap.size,3,none⟩ (I o.v)).setCell ⟨w.heap.size,4,none⟩ (.slice (some ⟨w.heap.size+2,0,none⟩) n cap)).setCell ⟨w.heap.size,5,none⟩ (B o.dG)).cell? ⟨w.heap.size+2,q,none⟩=some v:=(by intro q v hq;rw[World.cell?_setCell_other _ _ _ _ sX,World.cell?_setCell_other _ _ _ _ sX,World.cell?_setCell_other _ _ _ _ sX,World.cell?_setCell_other _ _ _ _ sX,World.cell?_setCell_other _ _ _ _ sX,World.cell?_setCell_other _ _ _ _ sX,World.cell?_setCell_other _ _ _ _ sX];have Su:q<n*3:=(by rw[←tP.out];exact(cA hq));rw[nv.out.cellAt q Su];exact hq);have hg:=fun q hq=>fq (f:=fT) (k:=3) (fun _ _=>rfl) o.cases 0 jj q c hjc hq
    exact⟨j8 _ _ (hg 0 oX),j8 _ _ (hg 1 oX),j8 _ _ (hg 2 oX)⟩
 ·rw[iN kL];simp only[Option.getD_none];obtain⟨oa,oc,XE⟩:=mE R hx;rw[XE]at g0;have h1:x.at_<0∨(0≤x.at_∧(x.ops.length:Int)≤x.at_):=by omega
  obtain⟨n,hn⟩:=dC (x.ops.length);obtain⟨k,hk⟩:=dC (x.at_);rw[←hn]at g0 h1;rw[←hk]at g1 h1;clear R hx kL XE hn hk hc;unfold bR;go_enter func92,ntmps92;rcases h1 with h1|⟨h2,h1⟩
  ·have Ut:decide (k<0)=true:=by simpa using h1
   exact aW4
  ·have Ut:decide (k<0)=false:=by simpa using h2
   have Rp:decide ((n:Int)≤k)=true:=br9;exact aW4
end
def pW(z:Int):Prop:= -9223372036854775808≤z∧z≤9223372036854775807
def gW(w:World)(ao:Option Addr)(cs:List Case):Prop:=
 cs.length≤9223372036854775807∧∀(k:Nat) c,cs[k]?=some c→∃b off,ao=some ⟨b,off,none⟩∧
  w.cell? ⟨b,off+k*3,none⟩=some (B c.cF)∧w.cell? ⟨b,off+k*3+1,none⟩=some (I c.ch)∧w.cell? ⟨b,off+k*3+2,none⟩=some (I c.v)∧pW c.ch∧pW c.v
def kC(w:World)(ao:Option Addr)(os:List cu):Prop:=
 os.length≤9223372036854775807∧∀(j:Nat) o,os[j]?=some o→∃b off x cx,ao=some ⟨b,off,none⟩∧
  w.cell? ⟨b,off+j*6,none⟩=some (I o.ai)∧w.cell? ⟨b,off+j*6+1,none⟩=some (I o.ch)∧w.cell? ⟨b,off+j*6+2,none⟩=some (I o.n)∧w.cell? ⟨b,off+j*6+3,none⟩=some (I o.v)∧
  w.cell? ⟨b,off+j*6+4,none⟩=some (.slice x o.cases.length cx)∧w.cell? ⟨b,off+j*6+5,none⟩=some (B o.dG)∧gW w x o.cases∧pW o.ai∧pW o.ch∧pW o.n∧pW o.v
def aH1(w:World)(ao:Option Addr)(p:List (List cu)):Prop:=
 p.length≤9223372036854775807∧∀(i:Nat) os,p[i]?=some os→∃b off r c,ao=some ⟨b,off,none⟩∧w.cell? ⟨b,off+i,none⟩=some (.slice r os.length c)∧kC w r os
theorem gW.fU{w w':World}{ao:Option Addr}{cs:List Case}(h:gW w ao cs)(hc:∀a v,w.cell? a=some v→w'.cell? a=some v):gW w' ao cs:=
 ⟨h.1,fun k c hk=>by obtain⟨b,off,e,h0,h1,h2,h3⟩:=h.2 k c hk;exact⟨b,off,e,hc _ _ h0,hc _ _ h1,hc _ _ h2,h3⟩⟩
theorem kC.fU{w w':World}{ao:Option Addr}{os:List cu}(h:kC w ao os)(hc:∀a v,w.cell? a=some v→w'.cell? a=some v):kC w' ao os:=
 ⟨h.1,fun j o hj=>by obtain⟨b,off,x,cx,e,h0,h1,h2,h3,h4,h5,h6,h7⟩:=h.2 j o hj;exact⟨b,off,x,cx,e,hc _ _ h0,hc _ _ h1,hc _ _ h2,hc _ _ h3,hc _ _ h4,hc _ _ h5,h6.fU hc,h7⟩⟩
theorem aH1.fU{w w':World}{ao:Option Addr}{p:List (List cu)}(h:aH1 w ao p)(hc:∀a v,w.cell? a=some v→w'.cell? a=some v):aH1 w' ao p:=
 ⟨h.1,fun i os hi=>by obtain⟨b,off,r,c,e,h1,h2⟩:=h.2 i os hi;exact⟨b,off,r,c,e,hc _ _ h1,h2.fU hc⟩⟩
theorem cw{w w':World}{B:Nat}(hb:Below B w w')(hB:w.heap.size≤B)(a:Addr)(v:Value)(hv:w.cell? a=some v):w'.cell? a=some v:=by
 rw[hb.cell (by have:=xo w a hv;omega)];exact hv
section
variable{w w':World}{B:Nat}{ao:Option Addr}
theorem gW.below{cs:List Case}(h:gW w ao cs)(hb:Below B w w')(hB:w.heap.size≤B):gW w' ao cs:=h.fU (cw hb hB)
theorem kC.below{os:List cu}(h:kC w ao os)(hb:Below B w w')(hB:w.heap.size≤B):kC w' ao os:=h.fU (cw hb hB)
theorem aH1.below{p:List (List cu)}(h:aH1 w ao p)(hb:Below B w w')(hB:w.heap.size≤B):aH1 w' ao p:=h.fU (cw hb hB)
end
def il(k:Int):Bool:=decide (2≤k)&&decide (k≤8)
def kD(k:Int):Bool:=decide (k=2)||decide (k=4)
def qg(c:Case):Bool:=decide (0≤c.ch)&&decide (c.ch≤8)&&decide (0≤c.v)&&decide (c.v≤255)&&(c.cF||decide (c.v=0))
def yF(o:cu):Bool:=
 decide (1≤o.ai)&&decide (o.ai≤9)&&decide (0≤o.ch)&&decide (o.ch≤8)&&decide (0≤o.n)&&decide (o.n≤4)&&decide (0≤o.v)&&decide (o.v≤255)&&decide (o.cases.length≤6) &&
 (il o.ai||decide (o.ch=0))&&(kD o.ai||decide (o.v=0))&&(decide (o.ai=1)||decide (o.n=0))&&(decide (o.ai=9)||(!o.dG&&decide (o.cases.length=0)))&&o.cases.all qg
def im(p:List (List cu)):Bool:=p.all (fun l=>l.all yF&&decide (l.length≤16))&&decide (1≤p.length)&&decide (p.length≤8)
theorem tN{P:Program}{o:Oper}{a:Act}{w:World}{K:Act→World→Prop}{Q:Exit→Act→World→Prop}(s x:Operand)(t:TypeId)(ho:o.op=.call {callee:=.builtin .append,args:=#[s,x],argTypes:=#[t,t]}){e:TypeId}{i:TypeInfo}{z:Value}{size bytes:Nat}(ht:P.underlying t=some (.slice e))(hi:P.info? e=some i)(hz:i.zero=some z)(hsize:i.size=size)(hby:i.bytes=bytes)(hzs:z.cells.size=size)(hsz:0<size)(hbb:bytes≤200)(hs:a.eval s=.slice none 0 0)(ao:Option Addr)(n c:Nat)(hx:a.eval x=.slice ao n c)(cs:List Value)(hl:cs.length=n*size)(hc:0<n→∃b off,ao=some ⟨b,off,none⟩∧∀j u,cs[j]?=some u→w.cell? ⟨b,off+j,none⟩=some u)(h1:∀u∈cs,u.oneCell'=true)(hn:n<1000001)(h:∀hb cap w',w.grownBy w' none→(hb=none∧n=0∧cap=0∨hb=some ⟨w.heap.size,0,none⟩∧w'.ownsRow w.heap.size e size (.slice (some ⟨w.heap.size,0,none⟩) n cap) n cs)→K (a.put o.dst (.slice hb n cap)) w'):o.wp P a w K Q:=by
 rcases Nat.eq_zero_or_pos n with h0|h0
 ·subst h0;exact yw s x t ho ht hi hs ao c hx (h none 0 w (World.grownBy.refl _ _) (.inl ⟨rfl,rfl,rfl⟩))
 ·obtain⟨b,off,rfl,Ek⟩:=hc h0;exact EF s x t ho ht hi hz hsize hby hzs hsz hbb hs b off n c hx cs hl Ek h1 h0 hn fun cap w' h2 h3=>h _ cap w' h3 (.inr ⟨rfl,h2⟩)
section
variable{P:Program}{ops:Array Oper}{rest:List Oper}{o:Oper}{a:Act}
theorem gu{w:World}{Q:Exit→Act→World→Prop}(nX:o.guard=none)(s x:Operand)(t:TypeId)(ho:o.op=.call {callee:=.builtin .append,args:=#[s,x],argTypes:=#[t,t]}){e:TypeId}{i:TypeInfo}{z:Value}{size bytes:Nat}(ht:P.underlying t=some (.slice e))(hi:P.info? e=some i)(hz:i.zero=some z)(hsize:i.size=size)(hby:i.bytes=bytes)(hzs:z.cells.size=size)(hsz:0<size)(hbb:bytes≤200)(hs:a.eval s=.slice none 0 0)(ao:Option Addr)(n c:Nat)(hx:a.eval x=.slice ao n c)(cs:List Value)(hl:cs.length=n*size)(hc:0<n→∃b off,ao=some ⟨b,off,none⟩∧∀j u,cs[j]?=some u→w.cell? ⟨b,off+j,none⟩=some u)(h1:∀u∈cs,u.oneCell'=true)(hn:n<1000001)(h:∀hb cap w',w.grownBy w' none→(hb=none∧n=0∧cap=0∨hb=some ⟨w.heap.size,0,none⟩∧w'.ownsRow w.heap.size e size (.slice (some ⟨w.heap.size,0,none⟩) n cap) n cs)→wpList P ops Q rest (a.put o.dst (.slice hb n cap)) w'):wpList P ops Q (o::rest) a w:=
 wpList_plain nX fun _ hK=>tN s x t ho ht hi hz hsize hby hzs hsz hbb hs ao n c hx cs hl hc h1 hn fun hb cap w' h2 h3=>hK _ _ (h hb cap w' h2 h3)
theorem od{Q:Exit→Act→World→Prop}(nX:o.guard=none)(s x:Operand)(t:TypeId)(ho:o.op=.call {callee:=.builtin .append,args:=#[s,x],argTypes:=#[t,t]}){af:Nat}{e:TypeId}{i:TypeInfo}{z:Value}{size bytes:Nat}(ht:P.underlying t=some (.slice e))(hi:P.info? e=some i)(hz:i.zero=some z)(hsize:i.size=size)(hby:i.bytes=bytes)(hzs:z.cells.size=size)(hsz:0<size)(hbb:bytes≤200){w2 W3:World}{us:Array Value}(hW:W3.heap=(w2.alloc (.cells us e)).heap)(hus:us.size=size)(h1:∀u∈us.toList,u.oneCell'=true)(v:Value)(n:Nat)(xs:List Value)(hs:a.eval s=v)(hown:w2.ownsRow af e size v n xs)(q:Nat)(hq:q=w2.heap.size)(hx:a.eval x=.slice (some ⟨q,0,none⟩) 1 1)(hn:n<1000001)(hbase:af≤w2.heap.size)(h:∀g cap w',w'.ownsRow af e size (.slice (some ⟨g,0,none⟩) (n+1) cap) (n+1) (xs++us.toList)→W3.grownBy w' v.ownBlock→(v.ownBlock=some g∨W3.heap.size≤g)→wpList P ops Q rest (a.put o.dst (.slice (some ⟨g,0,none⟩) (n+1) cap)) w'):wpList P ops Q (o::rest) a W3:=by
 subst hq;exact jw nX s x t ho ht hi hz hsize hby hzs hsz hbb hW hus h1 v n xs hs hown hx hn hbase h
end
theorem gW.cells{w:World}{ao:Option Addr}{cs:List Case}(h:gW w ao cs)(h0:0<cs.length):∃b off,ao=some ⟨b,off,none⟩∧∀j u,(bT fT 0 cs)[j]?=some u→w.cell? ⟨b,off+j,none⟩=some u:=by
 obtain⟨b,off,e,_⟩:=h.2 0 _ (fv h0);refine⟨b,off,e,fun j u hu=>?_⟩;have hj:j<cs.length*3:=by have:=cA hu;rwa [aV9 (f:=fT) (k:=3) (fun _ _=>rfl)]at this
 have hq:j / 3<cs.length:=oX
 have h1:=fq (f:=fT) (k:=3) (fun _ _=>rfl) cs 0 (j / 3) (j % 3) _ (fv hq) oX;rw[show j / 3*3+j % 3=j by omega,hu]at h1;obtain⟨b',VK,e',a1,a2,a3,_⟩:=h.2 (j / 3) _ (fv hq);rw[e]at e';cases e';have h3:j % 3=0∨j % 3=1∨j % 3=2:=oX
 rcases h3 with h3|h3|h3<;>rw[h3]at h1<;>simp[fT]at h1<;>subst h1
 ·rw[show off+j=off+j / 3*3 by omega];exact a1
 ·rw[show off+j=off+j / 3*3+1 by omega];exact a2
 ·rw[show off+j=off+j / 3*3+2 by omega];exact a3
abbrev CK:=Option bH
def Nl:CK→Option (Nat×Nat)|none=>some (50,1)|some (.ops _)=>some (49,6)|_=>none
def J6(aV:CK→Option Nat)(cap:CK→Nat)(i q:Nat)(o:cu):List Value:=[I o.ai,I o.ch,I o.n,I o.v,nG (aV (some (.cases i q))) o.cases.length (cap (some (.cases i q))),B o.dG]
structure fY(lo:Nat)(w0 w:World)(p:List (List cu))(j k:Nat)(aV:CK→Option Nat)(cap:CK→Nat)(c:CK→List Value):Prop where
 own:cN lo w0 w aV Nl cap c
 out:c none=(List.range j).map fun i=>nG (aV (some (.ops i))) (p.getD i []).length (cap (some (.ops i)))
 rows:∀i,i<j→c (some (.ops i))=bT (J6 aV cap i) 0 (p.getD i [])
 row:c (some (.ops j))=bT (J6 aV cap j) 0 ((p.getD j []).take k)
 rU:∀i q o,(i<j∨i=j∧q<k)→(p.getD i [])[q]?=some o→c (some (.cases i q))=bT fT 0 o.cases
 more:∀i,j<i→aV (some (.ops i))=none
 J7:∀i q,¬(i<j∨i=j∧q<k)→aV (some (.cases i q))=none
 YP:k=0→aV (some (.ops j))=none
 less:∀i (q:Nat),(p.getD i [])[q]?=none→aV (some (.cases i q))=none
section
variable{lo:Nat}{w0 w w':World}{p:List (List cu)}{j k:Nat}{aV:CK→Option Nat}{cap:CK→Nat}{c:CK→List Value}
theorem gX{α:Type}{f f':Nat→α→List Value}(l:List α)(h:∀j x,l[j]?=some x→f j x=f' j x):bT f 0 l=bT f' 0 l:=iI l 0 (fun j x hx=>by rw[Nat.zero_add];exact h j x hx)
theorem fm{α:Type}{l:List α}{i:Nat}{x:α}(h:l[i]?=some x):i<l.length:=cA h
theorem ox{α:Type}{l:List α}{k:Nat}{o:α}(h:l[k]?=some o):l.take (k+1)=l.take k++[o]:=by
 obtain⟨hk,e⟩:=uC h;rw[List.take_succ_eq_append_getElem hk,e]
theorem fY.op(H:fY lo w0 w p j k aV cap c){o:cu}(ho:(p.getD j [])[k]?=some o){hb:Option Nat}{hc:Nat}{w2 w3:World}(CM:Below w.heap.size w w2)(fa:hb=none∧o.cases=[]∨∃b,hb=some b∧w.heap.size≤b∧gl w2 b none hc (bT fT 0 o.cases)){g cp:Nat}(hg:w2.grownBy w3 (aV (some (.ops j))))(bE:aV (some (.ops j))=some g∨w2.heap.size≤g)(hown:w3.ownsRow lo 49 6 (.slice (some ⟨g,0,none⟩) (k+1) cp) (k+1) (c (some (.ops j))++[I o.ai,I o.ch,I o.n,I o.v,nG hb o.cases.length hc,B o.dG])):∃tM pF c',fY lo w0 w3 p j (k+1) tM pF c'∧tM (some (.ops j))=some g∧pF (some (.ops j))=cp∧tM none=aV none∧pF none=cap none:=by
 have VL:aV (some (.cases j k))=none:=H.J7 j k oX
 have O1:cN lo w0 w2 (up aV (some (.cases j k)) hb) Nl (up cap (some (.cases j k)) hc) (up c (some (.cases j k)) (bT fT 0 o.cases)):=by
  rcases fa with⟨rfl,fa⟩|⟨b,rfl,h1,h2⟩
  ·have O:=H.own.eC CM
   have e1:up aV (some (.cases j k)) none=aV:=by
    funext k';by_cases e:k'=some (.cases j k)
    ·rw[e,bq,VL]
    ·rw[aD _ _ e]
   have e2:up c (some (.cases j k)) (bT fT 0 o.cases)=c:=by
    funext k';by_cases e:k'=some (.cases j k)
    ·rw[e,bq,fa,O.none_ _ VL];rfl
    ·rw[aD _ _ e]
   rw[e1,e2];exact⟨O.below,O.tL,O.inj,fun k' b h=>by rw[aD _ _ (fun e=>by rw[e,VL]at h;cases h)];exact O.lies k' b h,O.none_⟩
  ·exact H.own.add CM h1 (by exact h2)
 have jg:(up aV (some (.cases j k)) hb) (some (.ops j))=aV (some (.ops j)):=aD _ _ sX;have O2:=O1.row (r:=some (.ops j)) (p:=(49,6)) (g:=g) (n:=k+1) (cp:=cp) (by intro q hq;simp[Nl]at hq;exact hq.symm) (by rw[jg];exact hg) hown (by rw[jg];exact bE);have hB:∀i q,¬(i=j∧q=k)→up (up aV (some (.cases j k)) hb) (some (.ops j)) (some g) (some (.cases i q))=aV (some (.cases i q)):=fun i q h=>by rw[aD _ _ sX,aD _ _ bj3]
 have hC:∀i q,¬(i=j∧q=k)→up (up cap (some (.cases j k)) hc) (some (.ops j)) cp (some (.cases i q))=cap (some (.cases i q)):=fun i q h=>by rw[aD _ _ sX,aD _ _ bj3]
 have G5:∀i,i≠j→up (up aV (some (.cases j k)) hb) (some (.ops j)) (some g) (some (.ops i))=aV (some (.ops i)):=fun i h=>by rw[aD _ _ bj3,aD _ _ sX]
 have YQ:∀i,i≠j→up (up cap (some (.cases j k)) hc) (some (.ops j)) cp (some (.ops i))=cap (some (.ops i)):=fun i h=>by rw[aD _ _ bj3,aD _ _ sX]
 refine⟨_,_,_,⟨O2,?_,?_,?_,?_,?_,?_,fun h=>oX,fun i q h=>?_⟩,bq _ _ _,bq _ _ _,?_,?_⟩
 ·rw[aD _ _ sX,aD _ _ sX,H.out];apply List.map_congr_left;intro i hi;have:=List.mem_range.1 hi;rw[G5 i oX,YQ i oX]
 ·intro i hi;rw[aD _ _ bi8,aD _ _ sX,H.rows i hi];refine gX _ fun q o' _=>?_
  unfold J6;rw[hB i q oX,hC i q oX]
 ·rw[bq,ox ho,ni,H.row];have vA:=fm ho;congr 1
  ·refine gX _ fun q o' hq=>?_
   have:=fm hq;simp at this;unfold J6;rw[hB j q oX,hC j q oX]
  ·rw[show 0+((p.getD j []).take k).length=k by rw[tC];omega];simp only[bT,J6,List.append_nil];rw[aD _ _ sX,bq,aD _ _ sX,bq]
 ·intro i q o' h Xz;by_cases e:i=j∧q=k
  ·obtain⟨rfl,rfl⟩:=e;rw[ho]at Xz;cases Xz;rw[aD _ _ sX,bq]
  ·rw[aD _ _ sX,aD _ _ (by simpa using e)];exact H.rU i q o' oX Xz
 ·intro i hi;rw[G5 i oX];exact H.more i hi
 ·intro i q h;rw[hB i q oX];exact H.J7 i q oX
 ·by_cases e:i=j∧q=k
  ·obtain⟨rfl,rfl⟩:=e;rw[ho]at h;cases h
  ·rw[hB i q e];exact H.less i q h
 ·rw[aD _ _ sX,aD _ _ sX]
 ·rw[aD _ _ sX,aD _ _ sX]
theorem fY.next(H:fY lo w0 w p j k aV cap c)(hj:(p.getD j []).length=k){g cp:Nat}{w2:World}(hB:w.grownBy w2 (aV none))(bE:aV none=some g∨w.heap.size≤g)(hown:w2.ownsRow lo 50 1 (.slice (some ⟨g,0,none⟩) (j+1) cp) (j+1) (c none++[nG (aV (some (.ops j))) k (cap (some (.ops j)))])):∃tM pF c',fY lo w0 w2 p (j+1) 0 tM pF c'∧tM none=some g∧pF none=cp:=by
 have O:=H.own.row (r:=none) (p:=(50,1)) (g:=g) (n:=j+1) (cp:=cp) (by intro q hq;simp[Nl]at hq;exact hq.symm) hB hown bE;have hS:∀r:bH,up aV none (some g) (some r)=aV (some r):=fun r=>aD _ _ sX
 have Sm:∀r:bH,up cap none cp (some r)=cap (some r):=fun r=>aD _ _ sX
 have hS3:∀(r:bH) xs,up c none xs (some r)=c (some r):=fun r xs=>aD _ _ sX
 refine⟨_,_,_,⟨O,?_,?_,?_,?_,?_,?_,?_,fun i q h=>by rw[hS];exact H.less i q h⟩,bq _ _ _,bq _ _ _⟩
 ·rw[bq,H.out,List.range_succ,List.map_append];simp only[hS,Sm,List.map_cons,List.map_nil,hj]
 ·intro i hi;rw[hS3];by_cases e:i=j
  ·subst e;rw[H.row,←hj,List.take_length];refine gX _ fun q o' _=>?_
   unfold J6;rw[hS,Sm]
  ·rw[H.rows i oX];refine gX _ fun q o' _=>?_
   unfold J6;rw[hS,Sm]
 ·rw[hS3,aW1];exact H.own.none_ _ (H.more _ oX)
 ·intro i q o' h Xz;rw[hS3];have:=fm Xz;refine H.rU i q o' ?_ Xz;by_cases e:i=j
  ·subst e;omega
  ·omega
 ·intro i hi;rw[hS];exact H.more i oX
 ·intro i q h;rw[hS];exact H.J7 i q oX
 ·intro _;rw[hS];exact H.more _ oX
end
def nK(size NR most:Int):Bool:=decide (0≤size)&&decide (size≤64)&&decide (0≤NR)&&decide (NR≤8)&&decide (1≤most)&&decide (most≤16)
theorem Hp(a b c:Int)(w:World):Calls prog 44 #[I a,I b,I c] w (eL (.bool (nK a b c)) fun w'=>w=w'):=by
 go_enter func44,ntmps44;exact bg8
theorem BB(a b c:Int)(w:World):Calls prog 136 #[I a,I b,I c] w (eL (.bool (nK a b c)) fun w'=>w=w'):=by
 go_enter func136,ntmps136;exact bg8
def VM(B g c n m lo:Nat)(zs:List Int)(w:World)(e:Ending)(w':World):Prop:=
 e=.returned (.tuple #[])∧∃VN:List Int,yt m zs VN∧iP VN m lo∧w'.ownsRow B 3 1 (.slice (some ⟨g,0,none⟩) n c) n (VN.map (Value.int .i64))∧w.grownBy w' (some g)∧w'.heap.size=w.heap.size
structure qD(B g c n m lo:Nat)(zs:List Int)(w:World)(k:Nat)(zk:List Int)(wr:World):Prop where
 HJ:yt m zs zk
 hole:vF zk m lo k
 own:wr.ownsRow B 3 1 (.slice (some ⟨g,0,none⟩) n c) n (zk.map (Value.int .i64))
 grown:w.grownBy wr (some g)
 size:wr.heap.size=w.heap.size
theorem wV{u v w:World}{r:Option Nat}(h:u.grownBy v r)(k:v.grownBy w r):u.grownBy w r:=
 ⟨k.os.trans h.os,k.tape.trans h.tape,k.output.trans h.output,jm h.size k.size,fun i hi hr=>(k.block i (by have:=h.size;omega) hr).trans (h.block i hi hr)⟩
theorem rW{B g c n:Nat}{w:World}{zs:List Int}(h:w.ownsRow B 3 1 (.slice (some ⟨g,0,none⟩) n c) n (zs.map (Value.int .i64)))(j:Nat)(hj:j<n):w.cell? ⟨g,j,none⟩=some (.int .i64 (zs.getD j 0)):=by
 have hl:zs.length=n:=by have:=h.1;simpa using this
 rw[h.cellAt j oX];simp[List.getD,hl,hj]
theorem qD.drewN{B g c n m lo k:Nat}{zs zk:List Int}{w wr:World}(h:qD B g c n m lo zs w k zk wr)(q:Nat):qD B g c n m lo zs w k zk (wr.drewN q):=
 ⟨h.HJ,h.hole,h.own,⟨h.grown.os,h.grown.tape,h.grown.output,h.grown.size,h.grown.block⟩,h.size⟩
theorem vR{B g c n m lo k d:Nat}{zs zk:List Int}{w wr:World}(h:qD B g c n m lo zs w k zk wr)(cP:zs.length=n)(hmn:m≤n)(hd:d=2*k+1∨d=2*k+2)(hdm:d<m)(ja:lo≤k)(Xu:zk.getD k 0≤zk.getD d 0)(Vt:∀d',d'<m→(d'=2*k+1∨d'=2*k+2)→zk.getD d' 0≤zk.getD d 0)(q:Nat):qD B g c n m lo zs w d (iO zk k d) (((wr.setCell ⟨g,k,none⟩ (.int .i64 (zk.getD d 0))).setCell ⟨g,d,none⟩ (.int .i64 (zk.getD k 0))).drewN q):=by
 have hl:=h.HJ.len;have h1:=(h.own.stored k (.int .i64 (zk.getD d 0)));have h2:=(h1.1.stored d (.int .i64 (zk.getD k 0)));refine⟨h.HJ.trans (.swap oX hdm oX),K7 h.hole oX hd hdm ja Xu Vt,uJ h.own rfl rfl,wV h.grown (wV h1.2 ⟨h2.2.os,h2.2.tape,h2.2.output,h2.2.size,h2.2.block⟩),?_⟩;show((wr.setCell _ _).setCell _ _).heap.size=_;rw[←h.size];simp[World.setCell]
theorem EN(B g c n m lo c':Nat)(zs:List Int)(w:World)(hmn:m≤n)(hn:n≤1000)(ja:lo≤m)(cP:zs.length=n)(hh:iP zs m (lo+1))(hown:w.ownsRow B 3 1 (.slice (some ⟨g,0,none⟩) n c) n (zs.map (Value.int .i64))):Calls prog 220 #[.slice (some ⟨g,0,none⟩) m c',.int .i64 lo] w (VM B g c n m lo zs w):=by
 have HR:qD B g c n m lo zs w lo zs w:=⟨.refl _ _,Hh hh,hown,World.grownBy.refl _ _,rfl⟩;have HRH:=ag HR;have qz:=ag cP;clear HR hh hown cP;go_enter func220,ntmps220;go_wp2;go_loopw [1,4] (fun a _ wr=>∃(k:Nat) (zk:List Int),lo≤k∧k≤m∧a=.int .i64 k∧Hid (qD B g c n m lo zs w k zk wr)) (fun a _ _=>m-(intOf a).toNat)
 case atStart=>exact⟨lo,zs,Nat.le_refl _,ja,rfl,HRH⟩
 case round=>
  clear HRH;obtain⟨k,zk,jg,jO,rfl,HR⟩:=hrel;by_cases c1:2*k+1<m
  ·have t1:2*(k:Int)+1<(m:Int):=by omega
   have p1:(0:Int)≤2*(k:Int)+1:=oX;have p2:(0:Int)≤2*(k:Int)+1+1:=oX;have e1:(2*(k:Int)+1).toNat=2*k+1:=oX;have e2:(2*(k:Int)+1+1).toNat=2*k+2:=oX;obtain⟨x,hx⟩:=named (zk.getD k 0);obtain⟨y,hy⟩:=named (zk.getD (2*k+1) 0);have cx:=rW HR.out.own k oX;have cy:=rW HR.out.own (2*k+1) oX;rw[←hx.out]at cx;rw[←hy.out]at cy;have fx:=HR.out.own.frozenAt k;have fy:=HR.out.own.frozenAt (2*k+1);by_cases c2:2*k+2<m
   ·have t2:2*(k:Int)+1+1<(m:Int):=oX;obtain⟨z,hz⟩:=named (zk.getD (2*k+2) 0);have cz:=rW HR.out.own (2*k+2) oX;rw[←hz.out]at cz;have fz:=HR.out.own.frozenAt (2*k+2);by_cases d2:y<z
    ·by_cases d3:z≤x
     ·go_wp2_with fail
      go_quiet (fail);go_wp2_with fail
      go_quiet (fail);go_wp2;exact bodyPost_ret (v:=.tuple #[]) (results_none rfl _ _ _) rfl ⟨rfl,zk,HR.out.HJ,vG HR.out.hole (by rw[←hy.out,←hx.out];omega) (fun _=>by rw[←hz.out,←hx.out];exact d3),((HR.out.drewN _).drewN _).own,((HR.out.drewN _).drewN _).grown,((HR.out.drewN _).drewN _).size⟩
     ·go_wp2_with fail
      go_quiet (fail);go_wp2_with fail
      go_quiet (fail);go_wp2_with fail
      generalize BI:wr.drewN _=wq;have ci:wq.cell? ⟨g,k,none⟩=some (.int .i64 x):=(by rw[←BI];exact cx);have cd:wq.cell? ⟨g,2*k+2,none⟩=some (.int .i64 z):=(by rw[←BI];exact cz);have fi:wq.frozen? ⟨g,k,none⟩=false:=(by rw[←BI];exact fx);have fd:wq.frozen? ⟨g,2*k+2,none⟩=false:=(by rw[←BI];exact fz);go_region;go_wp2;go_roundw
      case rel=>
       obtain⟨q,hq⟩:∃q,wq=wr.drewN q:=⟨_,BI.symm⟩;refine⟨2*k+2,iO zk k (2*k+2),oX,oX,bl2,?_⟩;rw[hq,hx.out,hz.out]
       exact vR ((HR.out.drewN q).drewN _) qz.out hmn (.inr rfl) oX oX (by rw[←hx.out,←hz.out];omega) (by
        intro d' hd' h;rcases h with rfl|rfl
        ·rw[←hy.out,←hz.out];omega
        ·exact Int.le_refl _) 0
      case measure=>simp[intOf];omega
    ·by_cases d3:y≤x
     ·go_wp2_with fail
      go_quiet (fail);go_wp2_with fail
      go_quiet (fail);go_wp2;exact bodyPost_ret (v:=.tuple #[]) (results_none rfl _ _ _) rfl ⟨rfl,zk,HR.out.HJ,vG HR.out.hole (by rw[←hy.out,←hx.out];exact d3) (fun _=>by rw[←hz.out,←hx.out];omega),((HR.out.drewN _).drewN _).own,((HR.out.drewN _).drewN _).grown,((HR.out.drewN _).drewN _).size⟩
     ·go_wp2_with fail
      go_quiet (fail);go_wp2_with fail
      go_quiet (fail);go_wp2_with fail
      generalize BI:wr.drewN _=wq;have ci:wq.cell? ⟨g,k,none⟩=some (.int .i64 x):=(by rw[←BI];exact cx);have cd:wq.cell? ⟨g,2*k+1,none⟩=some (.int .i64 y):=(by rw[←BI];exact cy);have fi:wq.frozen? ⟨g,k,none⟩=false:=(by rw[←BI];exact fx);have fd:wq.frozen? ⟨g,2*k+1,none⟩=false:=(by rw[←BI];exact fy);go_region;go_wp2;go_roundw
      case rel=>
       obtain⟨q,hq⟩:∃q,wq=wr.drewN q:=⟨_,BI.symm⟩;refine⟨2*k+1,iO zk k (2*k+1),oX,oX,bl2,?_⟩;rw[hq,hx.out,hy.out]
       exact vR ((HR.out.drewN q).drewN _) qz.out hmn (.inl rfl) oX oX (by rw[←hx.out,←hy.out];omega) (by
        intro d' hd' h;rcases h with rfl|rfl
        ·exact Int.le_refl _
        ·rw[←hz.out,←hy.out];omega) 0
      case measure=>simp[intOf];omega
   ·have t2:decide (2*(k:Int)+1+1<(m:Int))=false:=bi8;by_cases d3:y≤x
    ·go_wp2_with fail
     go_quiet (fail);go_wp2_with fail
     go_quiet (fail);go_wp2;exact bodyPost_ret (v:=.tuple #[]) (results_none rfl _ _ _) rfl ⟨rfl,zk,HR.out.HJ,vG HR.out.hole (by rw[←hy.out,←hx.out];exact d3) (fun h=>oX),((HR.out.drewN _).drewN _).own,((HR.out.drewN _).drewN _).grown,((HR.out.drewN _).drewN _).size⟩
    ·go_wp2_with fail
     go_quiet (fail);go_wp2_with fail
     go_quiet (fail);go_wp2_with fail
     generalize BI:wr.drewN _=wq;have ci:wq.cell? ⟨g,k,none⟩=some (.int .i64 x):=(by rw[←BI];exact cx);have cd:wq.cell? ⟨g,2*k+1,none⟩=some (.int .i64 y):=(by rw[←BI];exact cy);have fi:wq.frozen? ⟨g,k,none⟩=false:=(by rw[←BI];exact fx);have fd:wq.frozen? ⟨g,2*k+1,none⟩=false:=(by rw[←BI];exact fy);go_region;go_wp2;go_roundw
     case rel=>
      obtain⟨q,hq⟩:∃q,wq=wr.drewN q:=⟨_,BI.symm⟩;refine⟨2*k+1,iO zk k (2*k+1),oX,oX,bl2,?_⟩;rw[hq,hx.out,hy.out]
      exact vR ((HR.out.drewN q).drewN _) qz.out hmn (.inl rfl) oX oX (by rw[←hx.out,←hy.out];omega) (by
       intro d' hd' h;rcases h with rfl|rfl
       ·exact Int.le_refl _
       ·omega) 0
     case measure=>simp[intOf];omega
  ·go_wp2;exact bodyPost_ret (v:=.tuple #[]) (results_none rfl _ _ _) rfl ⟨rfl,zk,HR.out.HJ,K6 HR.out.hole oX,HR.out.own,HR.out.grown,HR.out.size⟩
def yH(l:List Int):List Int:=l.mergeSort (fun a b=>decide (a≤b))
theorem yI(l:List Int):(yH l).Perm l:=List.mergeSort_perm _ _
theorem CN(l:List Int):(yH l).Pairwise (· ≤·):=by
 have h:=List.pairwise_mergeSort (le:=fun a b:Int=>decide (a≤b)) (by intro a b c h1 h2;simp at*;omega) (by intro a b;simp;omega) l;exact h.imp fun h=>bj3
theorem EO{l l':List Int}(hp:l'.Perm l)(hs:l'.Pairwise (· ≤·)):l'=yH l:=Aw hs (CN l) (hp.trans (yI l).symm)
theorem lI(l:List Int):(yH l).length=l.length:=(yI l).length_eq
theorem rX{w:World}{B e g n:Nat}{xs:List Value}(h:w.ownsRow B e 1 (.slice (some ⟨g,0,none⟩) n n) n xs):w.heap[g]?=some (.cells xs.toArray e (0,0)):=by
 exact aY5
structure S1(B n:Nat)(zs:List Int)(w:World)(t:Nat)(wr:World):Prop where
 ex:∃zk:List Int,zk.length=n∧zk.Perm zs∧iP zk n t∧wr.ownsRow B 3 1 (.slice (some ⟨B,0,none⟩) n n) n (zk.map (Value.int .i64))
 below:Below B w wr
structure S2(B n:Nat)(zs:List Int)(w:World)(e:Int)(wr:World):Prop where
 ex:∃zk:List Int,zk.length=n∧zk.Perm zs∧(0≤e→Phase zk (e.toNat+1))∧wr.ownsRow B 3 1 (.slice (some ⟨B,0,none⟩) n n) n (zk.map (Value.int .i64))
 below:Below B w wr
theorem rY{B:Nat}{a w w':World}(h:Below B a w)(hg:w.grownBy w' (some B))(hB:B≤w.heap.size):Below B a w':=
 h.grown hg hB (by intro k hk;simp at hk;omega)
theorem N8(zs:List Int)(n:Nat)(hn:n=zs.length)(a:Option Addr)(c:Nat)(w:World)(h:Rd .i64 w a zs)(hs:n≤1000):Calls prog 216 #[.slice a n c] w (vH w (yH zs)):=by
 obtain⟨i0,hi,fV,gF,gG⟩:=info_parts lC;have Hn:=ag hn;clear hn;have H1:=ag h;clear h;go_enter func216,ntmps216;go_wp2_with (at_make;go_loud (refine wpList_make_full _ rfl _ _ 28 rfl w.heap.size 3 i0 (.int .i64 0) 1 underlying28 hi fV gF _ _ _ _ n rfl rfl rfl rfl bk6 bj4 cG ?_));intro w1 hown bX;have gq:Below w.heap.size w w1:=(fp _ _).grown bX cG bj7;rw[toList_madeCells_one]at hown;have AA:=ag (rX hown);obtain⟨cs,fa⟩:=dC (zs.map (Value.int .i64));have Sg:=ag fa;have cP:cs.length=n:=by rw[Sg.out,ko,Hn.out]
 have qz:=ag cP;clear hown bX fa cP;go_wp2_with (with_reducible refine wpList_copy_splice rfl (.tmp 9) (.tmp 10) 28 28 rfl 3 underlying28 kX _ _ _ _ _ _ rfl rfl w.heap.size 0 (List.replicate n (.int .i64 0)) 3 AA.out cs ?c1 ?c2 ?c3 ?c4 w.heap.size w gq cG ?_)
 case c1=>simp[qz.out]
 case c2=>
  intro h0;rw[qz.out,Hn.out]at h0;obtain⟨b,off,rfl,hc⟩:=(H1.out.below gq cG).2 h0;refine⟨_,rfl,fun j v hv=>?_⟩;rw[Sg.out,na]at hv
  have hj:j<zs.length:=by
   rcases Nat.lt_or_ge j zs.length with h|h
   ·exact h
   ·rw[rq h]at hv;cases hv
  exact bg2
 case c3=>simp[qz.out]
 case c4=>
  intro v hv;rw[Sg.out]at hv;exact ints_oneCell _ _ v hv
 intro w2 HG mz;have hG:=HG.out;have e1:splice (List.replicate n (Value.int .i64 0)) 0 cs=cs:=by simp[splice,qz.out]
 rw[e1]at hG
 have fu:w2.ownsRow w.heap.size 3 1 (.slice (some ⟨w.heap.size,0,none⟩) n n) n (zs.map (Value.int .i64)):=
  ⟨by simp[Hn.out],.inr ⟨_,n,_,rfl,Nat.le_refl _,hG,Nat.le_refl _,bj4,by simp[qz.out],by rw[←Sg.out];exact yl (by simp[qz.out])⟩⟩
 have HS:Hid (S1 w.heap.size n zs w (n / 2) w2):=⟨⟨zs,Hn.out.symm,.refl _,La _ _ _ oX,fu⟩,mz⟩;clear fu hG e1 HG mz gq AA;go_wp2;go_loopw [4] (fun i wr=>∃(i0:Int) (t:Nat),i=.int .i64 i0∧i0+1=t∧t≤n∧Hid (S1 w.heap.size n zs w t wr)) (fun i _=>(intOf i+1).toNat)
 case atStart=>exact⟨_,n / 2,rfl,oX,oX,HS⟩
 case round=>
  clear HS;obtain⟨i0,t,rfl,hit,htn,HS⟩:=hrel;have Hit:=ag hit;by_cases hpos:0≤i0
  ·obtain⟨s,rfl⟩:=pz hpos;obtain rfl:t=s+1:=by omega
   clear hit hpos;go_wp2_with fail
   obtain⟨⟨zk,Ay,So,Sp,Lv⟩,VO⟩:=HS.out;refine(EN w.heap.size w.heap.size n n n s n zk _ cG hs oX Ay Sp Lv).mono ?_;rintro e w3 ⟨rfl,VN,UD,EP,YR,hgr,hsz⟩;have HS':Hid (S1 w.heap.size n zs w s w3):=⟨⟨VN,UD.len.trans Ay,UD.perm.trans So,EP,YR⟩,rY VO hgr VO.size⟩;clear VO YR hgr hsz HS Lv Sp EP UD So Ay;go_wp2;go_roundw
   case rel=>exact⟨_,s,rfl,oX,oX,HS'⟩
   case measure=>simp[intOf]
  ·obtain rfl:t=0:=by omega
   have HP:Hid (S2 w.heap.size n zs w ((n:Int)-1) wr):=(by obtain⟨⟨zk,Ay,So,Sp,Lv⟩,VO⟩:=HS.out;refine⟨⟨zk,Ay,So,fun h0=>?_,Lv⟩,VO⟩;rw[show((n:Int)-1).toNat+1=zk.length by omega];exact ED (by rw[Ay];exact Sp));clear hit HS Hit;go_wp2;go_loopw [5] (fun i wr=>∃(e0:Int),i=.int .i64 e0∧ -1≤e0∧e0<n∧Hid (e0<0→n≤1)∧Hid (S2 w.heap.size n zs w e0 wr)) (fun i _=>(intOf i).toNat)
   case atStart=>exact⟨_,rfl,oX,oX,(fun h=>by omega:(n:Int)-1<0→n≤1),HP⟩
   case round=>
    clear HP;obtain⟨e0,rfl,ja,hhi,HE,HP⟩:=hrel;by_cases nT:0<e0
    ·obtain⟨s,rfl⟩:=pz (by omega:0≤e0);obtain⟨zk,Ay,So,Sp,Lv⟩:=HP.out.ex;have hph:Phase zk (s+1):=Sp oX;obtain⟨x,hx⟩:=named (zk.getD 0 0);obtain⟨y,hy⟩:=named (zk.getD s 0);have cx:=rW Lv 0 oX;have cy:=rW Lv s oX;rw[←hx.out]at cx;rw[←hy.out]at cy;have fx:=Lv.frozenAt 0;have fy:=Lv.frozenAt s;have hs0:¬s=0:=oX;have Sq:Hid (zk.length=n∧zk.Perm zs∧Phase zk (s+1)):=⟨Ay,So,hph⟩;have Hzo:=ag Lv;clear Ay So Sp Lv hph;go_wp2;go_region;have UE:=uJ Hzo.out (i:=0) (j:=s) hx.out hy.out;have N9:=yu Sq.out.2.2 bs4 oX;have mz:Below w.heap.size w ((wr.setCell ⟨w.heap.size,0,none⟩ (.int .i64 y)).setCell ⟨w.heap.size,s,none⟩ (.int .i64 x)):=tG HP.out.below cG;have mq:=ag mz;have Ru:=EN w.heap.size w.heap.size n n s 0 n (iO zk 0 s) (((wr.setCell ⟨w.heap.size,0,none⟩ (.int .i64 y)).setCell ⟨w.heap.size,s,none⟩ (.int .i64 x)).drew) oX hs oX (by rw[lB,Sq.out.1]) N9.1 UE;have CS:=ag Ru;clear Ru mz N9 UE cx cy fx fy;go_wp2_with fail
     refine CS.out.mono ?_;rintro e w3 ⟨rfl,VN,UD,EP,YR,hgr,hsz⟩
     have HS':Hid (S2 w.heap.size n zs w ((s:Int)-1) w3):=by
      refine⟨⟨VN,?_,?_,fun _=>?_,YR⟩,rY mq.out.drew hgr mq.out.size⟩
      ·rw[UD.len,lB,Sq.out.1]
      ·exact(UD.perm.trans (tF _ _ _ bs4 bs4)).trans Sq.out.2.1
      ·rw[show((s:Int)-1).toNat+1=s by omega];exact Hi Sq.out.2.2 bs4 oX UD EP
     clear UD EP YR hgr hsz CS mq Hzo HP;go_wp2;go_roundw
     case rel=>exact⟨_,rfl,oX,oX,(fun h=>by omega:(s:Int)-1<0→n≤1),HS'⟩
     case measure=>simp[intOf];omega
    ·go_wp2;go_ret;obtain⟨⟨zk,Ay,So,Sp,Lv⟩,VO⟩:=HP.out
     have Sr:zk.Pairwise (· ≤·):=by
      by_cases h0:e0=0
      ·subst h0;exact Cx (Sp oX)
      ·have:=HE.out oX;exact Cy oX
     have hz:=EO So Sr;subst hz;exact⟨_,rfl,by unfold yv;rw[lI,←Hn.out];exact Lv,VO⟩
section
variable{af:Nat}{F:Fx}{w:World}{m:Mem}{S:Wd}
theorem Mem.CO{m:Mem}{r:bH}{n:Nat}(R:bz af F w m S)(h:aj m S r≠[]):∃b,m.aV r=some b∧m.cU r n=.slice (some ⟨b,0,none⟩) n (m.cap r):=by
 obtain⟨b,hb⟩:=R.has h;exact⟨b,hb,Mem.de hb _⟩
theorem Ly(m:Mem)(r:bH)(n:Nat)(h:m.aV r=none→n=0):∃a c,m.cU r n=.slice a n c:=by
 cases hb:m.aV r with
 |none=>rw[h hb];exact⟨none,0,Mem.j6 hb _⟩
 |some b=>exact⟨_,_,Mem.de hb _⟩
theorem lL(R:bz af F w m S):∃a c,m.cU .dQ S.aq.length=.slice a S.aq.length c:=
 Ly _ _ _ fun h=>by have:=R.none_ _ h;simpa[aj]using this
theorem At.owner{m0:Mem}{w0:World}(A:At af F m0 w0 m w S){ob j:Nat}{v:Int}(hb:m.aV .dQ=some ob):At af F m0 w0 m (w.setCell ⟨ob,j,none⟩ (I v)) {S with aq:=S.aq.set j v}:=by
 refine A.set hb (by simp[aj,List.map_set]) ?_;exact aZ2
section
variable(R:bz af F w m S)
include R
theorem EY(l who:Int):Calls prog 169 #[.pointer (some ⟨F.dY,0,none⟩),I l,I who] w (eL (.bool (ek S.aq l who).2) fun w'=>At af F m w m w' {S with aq:=(ek S.aq l who).1}):=by
 have c0:=R.sM;have HR:=ag (At.refl R);by_cases kL:0≤l∧l<S.aq.length
 ·obtain⟨j,rfl⟩:∃j:Nat,l=j:=⟨l.toNat,oX⟩;have hj:j<S.aq.length:=by omega
  have hx:S.aq[j]?=some S.aq[j]:=fv hj;obtain⟨x,AF⟩:=dC (S.aq[j]);rw[←AF]at hx;obtain⟨ob,jz,hh⟩:=Mem.CO (r:=.dQ) (n:=S.aq.length) R bq0;rw[hh]at c0;have c1:w.cell? ⟨ob,j,none⟩=some (I x):=R.cell jz bm7;have f1:=R.frozen jz j;unfold ek;rw[eR,hx];by_cases h3:who<0
  ·rw[aE oX];clear R kL hh AF hx jz;go_enter func169,ntmps169;exact aX3
  by_cases h4:x= -1
  ·subst h4;rw[aF ⟨oX,oX,rfl⟩];have HR':=ag (HR.out.owner (j:=j) (v:=who) jz);clear R kL hh AF hx jz;go_enter func169,ntmps169;go_wp2;go_ret;exact⟨rfl,HR'⟩
  ·rw[aE (by rintro⟨_,_,h⟩;exact h4 (mx h))];have R8:(x != -1)=true:=by simpa using h4
   clear R kL hh AF hx jz;go_enter func169,ntmps169;exact aX3
 ·obtain⟨a,c,hh⟩:=lL R;rw[hh]at c0;unfold ek;rw[iN kL,aE sX];have h1:l<0∨(S.aq.length:Int)≤l:=by omega
  clear R kL hh;go_enter func169,ntmps169;exact bi7
theorem Lz(l who:Int):Calls prog 156 #[.pointer (some ⟨F.dY,0,none⟩),I l,I who] w (eL (.bool (oB S.aq l who).2) fun w'=>At af F m w m w' {S with aq:=(oB S.aq l who).1}):=by
 have c0:=R.sM;have HR:=ag (At.refl R);by_cases kL:0≤l∧l<S.aq.length
 ·obtain⟨j,rfl⟩:∃j:Nat,l=j:=⟨l.toNat,oX⟩;have hj:j<S.aq.length:=by omega
  have hx:S.aq[j]?=some S.aq[j]:=fv hj;obtain⟨x,AF⟩:=dC (S.aq[j]);rw[←AF]at hx;obtain⟨ob,jz,hh⟩:=Mem.CO (r:=.dQ) (n:=S.aq.length) R bq0;rw[hh]at c0;have c1:w.cell? ⟨ob,j,none⟩=some (I x):=R.cell jz bm7;have f1:=R.frozen jz j;unfold oB;rw[eR,hx];by_cases h3:who<0
  ·rw[aE oX];clear R kL hh AF hx jz;go_enter func156,ntmps156;exact aX3
  by_cases h4:x=who
  ·subst h4;rw[aF ⟨oX,oX,rfl⟩];have HR':=ag (HR.out.owner (j:=j) (v:= -1) jz);clear R kL hh AF hx jz;go_enter func156,ntmps156;go_wp2;go_ret;exact⟨rfl,HR'⟩
  ·rw[aE (by rintro⟨_,_,h⟩;exact h4 (mx h))];have R8:(x !=who)=true:=by simpa using h4
   clear R kL hh AF hx jz;go_enter func156,ntmps156;exact aX3
 ·obtain⟨a,c,hh⟩:=lL R;rw[hh]at c0;unfold oB;rw[iN kL,aE sX];have h1:l<0∨(S.aq.length:Int)≤l:=by omega
  clear R kL hh;go_enter func156,ntmps156;exact bi7
theorem Ih(l:Int):Calls prog 55 #[.pointer (some ⟨F.dY,0,none⟩),I l] w (eL (I (owner S.aq l)) fun w'=>w=w'):=by
 have c0:=R.sM;by_cases kL:0≤l∧l<S.aq.length
 ·obtain⟨j,rfl⟩:∃j:Nat,l=j:=⟨l.toNat,oX⟩;have hj:j<S.aq.length:=by omega
  have hx:S.aq[j]?=some S.aq[j]:=fv hj;obtain⟨x,AF⟩:=dC (S.aq[j]);rw[←AF]at hx;obtain⟨ob,jz,hh⟩:=Mem.CO (r:=.dQ) (n:=S.aq.length) R bq0;rw[hh]at c0;have c1:w.cell? ⟨ob,j,none⟩=some (I x):=R.cell jz bm7;unfold owner;rw[eR,hx];clear R kL hh AF hx jz;go_enter func55,ntmps55;exact aW5
 ·obtain⟨a,c,hh⟩:=lL R;rw[hh]at c0;unfold owner;rw[iN kL];have h1:l<0∨(0≤l∧(S.aq.length:Int)≤l):=by omega
  clear R kL hh;go_enter func55,ntmps55;rcases h1 with h1|⟨h0,h1⟩
  all_goals
   exact aW5
theorem AI:Calls prog 201 #[.pointer (some ⟨F.dY,0,none⟩)] w (eL (I S.aq.length) fun w'=>w=w'):=by
 have c0:=R.sM;obtain⟨a,c,hh⟩:=lL R;rw[hh]at c0;clear R hh;go_enter func201,ntmps201;exact aW5
end
end
section
variable{af:Nat}{F:Fx}{w w0:World}{m m0:Mem}{S:Wd}
theorem Od(A:At af F m0 w0 m w S)(g:Nat){x:bI}(hx:S.gs[g]?=some x)(hc:(dH S g).cases.length≤1000):Calls prog 92 #[bR F,I g] w fun e w'=>(∃cv,e=.returned (.agg #[I (dH S g).ai,I (dH S g).ch,I (dH S g).n,I (dH S g).v,cv,B (dH S g).dG])∧dm w.heap.size w' cv (dH S g).cases)∧At af F m0 w0 m w' S:=
 (St A.bj g x hx hc).mono fun e w' ⟨cv,h1,h2,h3⟩=>⟨⟨cv,h1,h3⟩,A.cont h2⟩
theorem LA(R:bz af F w m S)(g:Nat)(l:Int)(S':Wd)(hm:Mach.lock S g l=some S')(hc:(dH S g).cases.length≤1000)(hx:∃x,S.gs[g]?=some x):Calls prog 155 #[bR F,I g,I l] w (ee fun w'=>At af F m w m w' S'):=by
 obtain⟨x,hx⟩:=hx;have HT:=ag (EY R l g);have HR:=ag (At.refl R);have c7:=R.pC;have Ii:=Sc;unfold Mach.lock at hm;by_cases eK:(ek S.aq l g).2=true
 ·rw[aF eK]at hm;rw[eK]at HT;unfold fL at hm;rw[hx]at hm;simp only[km]at hm
  cases hm;have ho:dH ({S with aq:=(ek S.aq l g).1}:Wd) g=dH S g:=rfl
  have eM:=cA hx;have HX:Hid (({S with aq:=(ek S.aq l g).1}:Wd).gs[g]?=some x):=hx;have HC:Hid ((dH ({S with aq:=(ek S.aq l g).1}:Wd) g).cases.length≤1000):=by rw[ho];exact hc
  by_cases hk:(dH S g).ai=6
  ·rw[aF hk];have HK:Hid ((dH ({S with aq:=(ek S.aq l g).1}:Wd) g).ai=6):=by rw[ho];exact hk
   clear R hx eK hk hc ho;unfold bR;go_enter func155,ntmps155;go_wp2_with (first|(go_at_call 169;refine HT.out.mono ?_;rintro e w2 ⟨rfl,A2⟩;have nx:=ag A2;clear A2)|(go_at_call 92;refine(Od nx.out g HX HC).mono ?_;rw[HK.out];rintro e w3 ⟨⟨cv,rfl,_⟩,A3⟩;have R3:=A3.bj;have c3:=R3.eu;have p2:=R3.g HX 2 _ rfl;have wW:=R3.frozen R3.aB.gs (g*25+2);have A5:=A3.g HX {x with ae:=21} (q:=2) (v:=I 21);have vV:=ag A5;clear A3 A5 R3));go_end0;exact⟨rfl,vV⟩
  ·rw[aE hk];obtain⟨kd,LB⟩:=dC ((dH S g).ai);have HK:Hid ((dH ({S with aq:=(ek S.aq l g).1}:Wd) g).ai=kd):=by rw[ho];exact LB.symm
   have hb:(kd==6)=false:=(by rw[LB];simpa using hk);clear R hx eK hk hc ho LB;unfold bR;go_enter func155,ntmps155;go_wp2_with (first|(go_at_call 169;refine HT.out.mono ?_;rintro e w2 ⟨rfl,A2⟩;have nx:=ag A2;clear A2)|(go_at_call 92;refine(Od nx.out g HX HC).mono ?_;rw[HK.out];rintro e w3 ⟨⟨cv,rfl,_⟩,A3⟩;have R3:=A3.bj;have c3:=R3.eu;have p2:=R3.g HX 2 _ rfl;have wW:=R3.frozen R3.aB.gs (g*25+2);have A5:=A3.g HX {x with ae:=5} (q:=2) (v:=I 5);have vV:=ag A5;clear A3 A5 R3));go_end0;exact⟨rfl,vV⟩
 ·rw[aE eK]at hm
  cases hm;have CP:(ek S.aq l g).2=false:=by simpa using eK
  have he:(ek S.aq l g).1=S.aq:=by
   unfold ek at eK ⊢;split
   ·rename_i h;rw[aF h]at eK;simp at eK
   ·rfl
  rw[CP,he]at HT;clear R hx eK CP he hc;unfold bR;go_enter func155,ntmps155;go_wp2_with (go_at_call 169;refine HT.out.mono ?_;rintro e w2 ⟨rfl,A2⟩;have nx:=ag A2;clear A2);refine bodyPost_ret (results_none rfl _ _ _) rfl ?_;exact⟨rfl,nx⟩
end
section
variable{af:Nat}{F:Fx}{w:World}{m:Mem}{S:Wd}
theorem sP{b:List (Int×Bool)}{g:Int}(h:bU b g≠2):∃j:Nat,g=j∧j<b.length∧b[j]?=some (bU b g,token b g):=by
 by_cases kL:0≤g∧g<b.length
 ·obtain⟨j,rfl⟩:∃j:Nat,g=j:=⟨g.toNat,oX⟩;obtain⟨x,hx⟩:∃x,b[j]?=some x:=⟨_,fv oX⟩;exact⟨j,rfl,oX,by simp[bU,token,eR,hx]⟩
 ·exact aX (by simp[bU,iN kL]) h
section
variable(R:bz af F w m S)(g:Int)
include R g
theorem gZ:Calls prog 50 #[.pointer (some ⟨F.dB,0,none⟩),I g] w (eL (I (bU S.ax g)) fun w'=>w=w'):=by
 have c0:=R.Bu;unfold bU;by_cases kL:0≤g∧g<S.ax.length
 ·obtain⟨j,rfl⟩:∃j:Nat,g=j:=⟨g.toNat,oX⟩;have hj:j<S.ax.length:=by omega
  obtain⟨⟨st,tk⟩,hx⟩:∃x,S.ax[j]?=some x:=⟨_,fv hj⟩;obtain⟨e0,e1⟩:=R.one hx;rw[eR,hx];clear R kL hx;go_enter func50,ntmps50;exact aW5
 ·rw[iN kL];have h1:g<0∨(0≤g∧(S.ax.length:Int)≤g):=by omega
  clear R kL;go_enter func50,ntmps50;exact bi5
theorem Ij:Calls prog 51 #[.pointer (some ⟨F.dB,0,none⟩),I g] w (eL (.bool (token S.ax g)) fun w'=>w=w'):=by
 have c0:=R.Bu;unfold token;by_cases kL:0≤g∧g<S.ax.length
 ·obtain⟨j,rfl⟩:∃j:Nat,g=j:=⟨g.toNat,oX⟩;have hj:j<S.ax.length:=by omega
  obtain⟨⟨st,tk⟩,hx⟩:∃x,S.ax[j]?=some x:=⟨_,fv hj⟩;obtain⟨e0,e1⟩:=R.one hx;rw[eR,hx];clear R kL hx;go_enter func51,ntmps51;exact aW5
 ·rw[iN kL];have h1:g<0∨(0≤g∧(S.ax.length:Int)≤g):=by omega
  clear R kL;go_enter func51,ntmps51;exact bi5
theorem LC:Calls prog 157 #[.pointer (some ⟨F.dB,0,none⟩),I g] w (eL (.bool (tD S.ax g).2) fun w'=>At af F m w m w' {S with ax:=(tD S.ax g).1}):=by
 have c0:=R.Bu;have pI:=ag (fun W (R:bz af F W m S)=>gZ R g);have HR:=ag (At.refl R);unfold tD;by_cases h0:bU S.ax g=0
 ·obtain⟨j,rfl,hj,hx⟩:=sP (b:=S.ax) (g:=g) oX;rw[h0]at hx pI;rw[aE (by rw[h0];simp)];obtain⟨tk,xT⟩:=dC (token S.ax (j:Int));rw[←xT]at hx;rw[←xT];obtain⟨e0,e1⟩:=R.one hx;have f0:=R.frozen R.aB.ax (j*2);have f1:=R.frozen R.aB.ax (j*2+1);have HX:=ag hx;clear R hx h0 xT
  cases tk
  ·rw[aE sX];have Ap:=ag (HR.out.one (q:=0) HX (1,false) oX (v:=I 1) rfl);go_enter func157,ntmps157;exact aX2
  ·rw[aF rfl];have Ap:=ag (HR.out.one (q:=1) HX (0,false) oX (v:=B false) rfl);go_enter func157,ntmps157;exact aX2
 ·rw[aF h0];obtain⟨st,EZ⟩:∃st,st=bU S.ax g:=⟨_,rfl⟩;rw[←EZ]at pI h0;have hb:(st==0)=false:=by simpa using h0
  have ff:(st !=0)=true:=by simpa using h0
  clear R EZ;go_enter func157,ntmps157;exact bh8
theorem Ik:Calls prog 160 #[.pointer (some ⟨F.dB,0,none⟩),I g] w (eL (.bool (ready S.ax g).2) fun w'=>At af F m w m w' {S with ax:=(ready S.ax g).1}):=by
 have c0:=R.Bu;have pI:=ag (fun W (R:bz af F W m S)=>gZ R g);have HR:=ag (At.refl R);unfold ready;by_cases h1:bU S.ax g=1
 ·obtain⟨j,rfl,hj,hx⟩:=sP (b:=S.ax) (g:=g) oX;rw[h1]at hx pI;rw[aF h1];obtain⟨tk,xT⟩:=dC (token S.ax (j:Int));rw[←xT]at hx;rw[←xT];obtain⟨e0,e1⟩:=R.one hx;have f0:=R.frozen R.aB.ax (j*2);have Ap:=ag (HR.out.one (q:=0) hx (0,tk) oX (v:=I 0) rfl);clear R hx h1 xT;go_enter func160,ntmps160;exact aX2
 ·by_cases h0:bU S.ax g=0
  ·obtain⟨j,rfl,hj,hx⟩:=sP (b:=S.ax) (g:=g) oX;rw[aE h1];rw[h0]at hx pI;obtain⟨tk,xT⟩:=dC (token S.ax (j:Int));rw[←xT]at hx;rw[←xT,h0];obtain⟨e0,e1⟩:=R.one hx;have f1:=R.frozen R.aB.ax (j*2+1);have HX:=ag hx;clear R hx h0 xT h1
   cases tk
   ·rw[aF ⟨rfl,rfl⟩];have Ap:=ag (HR.out.one (q:=1) HX (0,true) oX (v:=B true) rfl);go_enter func160,ntmps160;exact aX2
   ·rw[aE sX];go_enter func160,ntmps160;exact bh8
  ·rw[aE h1,aE (by rintro⟨h,_⟩;exact h0 h)];obtain⟨st,EZ⟩:∃st,st=bU S.ax g:=⟨_,rfl⟩;rw[←EZ]at pI h0 h1;have oH:(st==0)=false:=by simpa using h0
   have gq:(st==1)=false:=br9;clear R EZ;go_enter func160,ntmps160;exact bh8
end
end
open Go.Maps Go.ChangeMaps
theorem Rd.grown{k:IntKind}{w w':World}{ao:Option Addr}{zs:List Int}{g:Nat}(h:Rd k w ao zs)(hg:w.grownBy w' (some g))(cM:∀b off,ao=some ⟨b,off,none⟩→b≠g):Rd k w' ao zs:=by
 refine⟨h.1,fun h0=>?_⟩;obtain⟨b,off,e,hc⟩:=h.2 h0;exact⟨b,off,e,fun j hj=>hg.cell (hc j hj) (by simpa using cM b off e)⟩
def jh(w:World)(b n:Nat)(f:Int→Int):Prop:=
 ∃D:DataW Unit,w.ownsMap prog 3 (plainElem prog 3) b n D∧∀g:Int,(Lit.int .i64 g).wf=true→D.atKey (.int .i64 g) (.lit (.int .i64 0))=.lit (.int .i64 (f g))
theorem ZX:Keyed prog 3:=int_keyed underlying3
theorem ZY(w:World):(zeroValue 3).run prog w=.ok (.int .i64 0) w:=kX
theorem jh.cZ(w:World):jh (w.alloc (.map #[] 0)) w.heap.size 0 (fun _=>0):=⟨_,World.ownsMap_made w _ _ _,fun _ _=>rfl⟩
theorem jh.lt{w:World}{b n:Nat}{f:Int→Int}(h:jh w b n f):b<w.heap.size:=by
 obtain⟨D,h,_⟩:=h;exact h.lt
theorem jh.kept{w w':World}{b n:Nat}{f:Int→Int}{row:Option Nat}(h:jh w b n f)(hg:w.grownBy w' row)(cM:some b≠row):jh w' b n f:=by
 obtain⟨D,h,hf⟩:=h;exact⟨D,h.kept hg cM,hf⟩
theorem jh.below{w w':World}{b n:Nat}{f:Int→Int}(h:jh w b n f)(hg:Below w.heap.size w w'):jh w' b n f:=
 h.kept (row:=none) ⟨hg.os,hg.tape,hg.output,hg.size,fun k hk _=>hg.block k hk⟩ sX
theorem jh.mono{w:World}{b n n':Nat}{f:Int→Int}(h:jh w b n f)(hn:n≤n'):jh w b n' f:=by
 obtain⟨D,h,hf⟩:=h;exact⟨D,h.mono hn,hf⟩
theorem jh.congr{w:World}{b n:Nat}{f f':Int→Int}(h:jh w b n f)(he:∀g,(Lit.int .i64 g).wf=true→f g=f' g):jh w b n f':=by
 obtain⟨D,h,hf⟩:=h;exact⟨D,h,fun g hg=>by rw[hf g hg,he g hg]⟩
theorem jh.lookup{w:World}{b n:Nat}{f:Int→Int}(h:jh w b n f){g:Int}(hg:(Lit.int .i64 g).wf=true):(Instr.lookup 120 (.map (some b)) (.int .i64 g) false).run prog w=.ok (.int .i64 (f g)) w:=by
 obtain⟨D,h,hf⟩:=h;obtain⟨c,ta,ks,_⟩:=h.lookup_int ZX underlying120 underlying3 (ZY _) (keyOf_int_mk underlying3 hg);rw[hf g hg]at ks;simp at ks;rw[ta,ks]
theorem jh.update{w:World}{b n:Nat}{f:Int→Int}(h:jh w b n f)(hn:n<maxLen){g v:Int}(hg:(Lit.int .i64 g).wf=true)(hv:(Lit.int .i64 v).wf=true):∃w',(Instr.mapUpdate 120 (.map (some b)) (.int .i64 g) (.int .i64 v)).run prog w=.ok () w'∧jh w' b (n+1) (fun x=>if x=g then v else f x)∧w.grownBy w' (some b):=by
 obtain⟨D,h,hf⟩:=h;have hm:IsMap D:=by obtain⟨es,clock,_,_,_,e⟩:=h;exact⟨_,e⟩
 obtain⟨w',ta,h1,h2⟩:=h.update ZX underlying120 hn (keyOf_int_mk underlying3 hg) (plainElem_int underlying3 hv);refine⟨w',ta,⟨_,h1,fun x hx=>?_⟩,h2⟩;by_cases he:x=g
 ·subst he;rw[atKey_put_same hm (k:=.int .i64 x) (show WideAt.IsKeyLit (.int .i64 x)from trivial)];simp
 ·rw[atKey_put_other (by simpa using he),hf x hx];simp[he]
theorem jh.clear{w:World}{b n:Nat}{f:Int→Int}(h:jh w b n f)(ty:TypeId):∃w',(Builtin.clear_ #[120] ty #[.map (some b)]).run prog w=.ok (.tuple #[]) w'∧jh w' b 0 (fun _=>0)∧w.grownBy w' (some b):=by
 obtain⟨D,⟨es,clock,hb,_⟩,hf⟩:=h
 refine⟨setBlock w b (.map #[] clock),?_,⟨.map [],⟨#[],clock,heap_setBlock_same hb _,⟨sX,MapKept.stamped_empty clock,sX⟩,Nat.le_refl _,rfl⟩,fun _ _=>rfl⟩,
  ⟨rfl,rfl,rfl,by simp[setBlock],fun i _ hi=>heap_setBlock_other hb _ (fun e=>hi bt7)⟩⟩
 simp[Builtin.clear_,run_underlying underlying120,MapKept.run_getObj_map hb,MapKept.run_setObj_map _ hb,Result.andThen,setBlock]
theorem uZ{w:World}{ops:Array Oper}{rest:List Oper}{o:Oper}{a:Act}{Q:Exit→Act→World→Prop}(nX:o.guard=none)(m x v:Operand)(Pu:o.op=Op.mapUpdate 120 m x v)(b n:Nat)(f:Int→Int)(g z:Int)(hm:a.eval m=.map (some b))(hown:jh w b n f)(hn:n<maxLen)(hx:a.eval x=.int .i64 g)(hv:a.eval v=.int .i64 z)(hg:(Lit.int .i64 g).wf=true)(hz:(Lit.int .i64 z).wf=true)(h:∀w',jh w' b (n+1) (fun x=>if x=g then z else f x)→w.grownBy w' (some b)→wpList prog ops Q rest (a.put o.dst undef) w'):wpList prog ops Q (o::rest) a w:=by
 refine wpList_plain nX fun K hK=>?_
 obtain⟨w',ta,h1,h2⟩:=hown.update hn hg hz;unfold Oper.wp;simp[execOp,Pu,hm,hx,hv,ta,Result.andThen];exact hK _ _ (h _ h1 h2)
theorem lX{P:Program}{w:World}{ops:Array Oper}{rest:List Oper}{o:Oper}{a:Act}{Q:Act→Prop}(nX:o.guard=none)(m x:Operand)(Pu:o.op=Op.lookup 120 m x false)(b:Nat)(key v:Value)(hm:a.eval m=.map (some b))(hx:a.eval x=key)(ta:(Instr.lookup 120 (.map (some b)) key false).run P w=.ok v w)(h:wpStill P ops w Q rest (a.put o.dst v)):wpStill P ops w Q (o::rest) a:=by
 unfold wpStill;rw[aF bm2];unfold Oper.still;simp[execOp,Pu,hm,hx,ta,Oper.stillUpon,Result.andThen];exact h
def iC(who:Int)(run:List Int)(f:Int→Int)(g:Int):Int:=if g∈run∧g≠who then f g+1 else 0
theorem IL(who:Int)(run:List Int)(f:Int→Int)(j:Nat)(g:Int)(hj:j<run.length):iC who (run.take (j+1)) f g=if g=run.getD j 0∧g≠who then f g+1 else iC who (run.take j) f g:=by
 have hm:g∈run.take (j+1)↔g∈run.take j∨g=run.getD j 0:=by
  have:run.getD j 0=run[j]:=bt8
  rw[this,List.take_succ_eq_append_getElem hj,List.mem_append,List.mem_singleton]
 unfold iC;by_cases h1:g=run.getD j 0<;>by_cases h2:g=who<;>by_cases h3:g∈run.take j<;>simp[hm,h1,h2,h3];all_goals(first|omega|(subst h1;simp_all)|simp_all)
structure AW(s b:Nat)(w w':World):Prop where
 os:w'.os=w.os
 tape:w'.tape=w.tape
 output:w'.output=w.output
 size:w.heap.size≤w'.heap.size
 block:∀k,k<w.heap.size→k≠s→k≠b→w'.heap[k]?=w.heap[k]?
theorem AW.refl(s b:Nat)(w:World):AW s b w w:=⟨rfl,rfl,rfl,Nat.le_refl _,fun _ _ _ _=>rfl⟩
theorem AW.trans{s b:Nat}{w w1 w2:World}(h1:AW s b w w1)(h2:AW s b w1 w2):AW s b w w2:=
 ⟨h2.os.trans h1.os,h2.tape.trans h1.tape,h2.output.trans h1.output,jm h1.size h2.size,fun k hk e1 e2=>(h2.block k (uB hk h1.size) e1 e2).trans (h1.block k hk e1 e2)⟩
theorem AW.FL{s b:Nat}{w w1:World}(h:w.grownBy w1 (some b)):AW s b w w1:=⟨h.os,h.tape,h.output,h.size,fun k hk _ e2=>h.block k hk (by simpa using e2)⟩
theorem AW.rd{s b:Nat}{w w':World}{ao:Option Addr}{zs:List Int}(h:Rd .i64 w ao zs)(hg:AW s b w w')(cM:0<zs.length→∀b' off,ao=some ⟨b',off,none⟩→b'≠s∧b'≠b):Rd .i64 w' ao zs:=by
 refine⟨h.1,fun h0=>?_⟩;obtain⟨b',off,e,hc⟩:=h.2 h0;refine⟨b',off,e,fun j hj=>?_⟩;have hv:=hc j hj;rw[kZ (w:=w) (hg.block b' (xo w _ hv) (cM h0 b' off e).1 (cM h0 b' off e).2)];exact hv
structure fH(w:World)(s b1 b2 n1 n2:Nat)(f1 f2:Int→Int):Prop where
 aV:w.heap[s]?=some (.cells #[.map (some b1),.map (some b2)] 122 (0,0))
 m1:jh w b1 n1 f1
 m2:jh w b2 n2 f2
 Km:b1≠s
 Nu:b2≠s
 ne:b1≠b2
section
variable{w:World}{s b1 b2 n1 n2:Nat}{f1 f2:Int→Int}(h:fH w s b1 b2 n1 n2 f1 f2)
include h
theorem fH.lt:s<w.heap.size:=(dh h.aV).1
theorem fH.c0:w.cell? ⟨s,0,none⟩=some (.map (some b1)):=by simp[World.cell?,h.aV]
theorem fH.c1:w.cell? ⟨s,1,none⟩=some (.map (some b2)):=by simp[World.cell?,h.aV]
end
theorem Ma{s b1 b2 n1 n2 m:Nat}{f1 f2:Int→Int}{who:Int}{run:List Int}(r:Option Addr)(c:Nat)(w:World)(hm:m=run.length)(ap9:m≤20)(hA:fH w s b1 b2 n1 n2 f1 f2)(hr:Rd .i64 w r run)(SX:∀z∈run,(Lit.int .i64 z).wf=true)(hf:∀g,0≤f1 g∧f1 g≤1000000)(hrn:0<run.length→∀b off,r=some ⟨b,off,none⟩→b≠s∧b≠b2):Calls prog 31 #[.pointer (some ⟨s,0,none⟩),.agg #[.int .i64 who,.slice r m c]] w (ee fun w'=>fH w' s b2 b1 m n1 (iC who run f1) f1∧AW s b2 w w'):=by
 have dD:=hA.lt;have hA1:fH (w.alloc (.cells #[.int .i64 who,.slice r m c] 83)) s b1 b2 n1 n2 f1 f2:=by have hg:=World.grownBy_alloc w (.cells #[.int .i64 who,.slice r m c] 83) none;exact⟨(hg.block s dD sX).trans hA.aV,hA.m1.kept hg sX,hA.m2.kept hg sX,hA.Km,hA.Nu,hA.ne⟩
 obtain⟨HM,HA,HR,HF,HRN,SY⟩:=mr hm hA hr hf hrn SX;have ri:=ag hA1;clear hm hA hr hf SX hA1 hrn;go_enter func31,ntmps31;go_wp2;obtain⟨w1,jk⟩:=dC (w.alloc (.cells #[.int .i64 who,.slice r m c] 83));have hp:w1.heap[w.heap.size]?=some (.cells #[.int .i64 who,.slice r m c] 83 (0,0)):=by rw[jk];exact dP w _
 have hR1:Rd .i64 w1 r run:=by rw[jk];exact HR.out.below ((fp w.heap.size w).alloc cG _) cG
 have ZZ:AW s b2 w w1:=by rw[jk];exact⟨rfl,rfl,rfl,sX,fun k hk _ _=>gf w _ k hk⟩
 rw[←jk]at ri;rw[←jk];have Z0:=ag ZZ;have Ot:=ag hR1;obtain⟨p,hpp⟩:=dC (w.heap.size);rw[←hpp]at hp;rw[←hpp];have N9:p≠s:=by have:=HA.out.lt;omega
 have aA6:p≠b1:=by have:=HA.out.m1.lt;omega
 have Z1:p≠b2:=by have:=HA.out.m2.lt;omega
 have HP:=ag hp;clear jk HA HR ZZ hR1 hp hpp;have c0:=ri.out.c0;have c1:=ri.out.c1;have g0:=iM w1 s 0 _ _ ri.out.aV;have g1:=iM w1 s 1 _ _ ri.out.aV;go_region;obtain⟨w2,nt⟩:=dC (((w1.setCell ⟨s,0,none⟩ (.map (some b2))).setCell ⟨s,1,none⟩ (.map (some b1))).drew);have qw:∀k,k≠s→w2.heap[k]?=w1.heap[k]?:=fun k hk=>by rw[nt];show((w1.setCell ⟨s,0,none⟩ (.map (some b2))).setCell ⟨s,1,none⟩ (.map (some b1))).heap[k]?=_;rw[fQ _ _ _ _ bn3,fQ _ _ _ _ bn3]
 have rI:w2.heap[s]?=some (.cells #[.map (some b2),.map (some b1)] 122 (0,0)):=by rw[nt];have h1:=heap_setCell_same w1 s 0 _ _ (.map (some b2)) ri.out.aV;have h2:=heap_setCell_same _ s 1 _ _ (.map (some b1)) h1;show((w1.setCell ⟨s,0,none⟩ (.map (some b2))).setCell ⟨s,1,none⟩ (.map (some b1))).heap[s]?=_;simpa using h2
 have hsz:w2.heap.size=w1.heap.size:=by rw[nt];simp[World.setCell]
 have EU:w1.grownBy w2 (some s):=⟨by rw[nt];rfl,by rw[nt];rfl,by rw[nt];rfl,oX,fun k _ hk=>qw k fun e=>hk bt7⟩;rw[←nt];have Lf:fH w2 s b2 b1 n2 n1 f2 f1:=⟨rI,ri.out.m2.kept EU (by simpa using ri.out.Nu),ri.out.m1.kept EU (by simpa using ri.out.Km),ri.out.Nu,ri.out.Km,dE ri.out.ne⟩;have nx:=ag Lf;have En:=ag ((qw p N9).trans HP);have nU:=ag EU;have d0:=Lf.c0;clear nt qw rI hsz EU Lf ri HP c0 c1 g0 g1;obtain⟨w3,ta,ah8,Oi⟩:=nx.out.m1.clear 0;have SZ:fH w3 s b2 b1 0 n1 (iC who (run.take 0) f1) f1:=by refine⟨(Oi.block s nx.out.lt (by simpa using fun e=>nx.out.Km e.symm)).trans nx.out.aV,ah8.congr fun g _=>by simp[iC],nx.out.m2.kept Oi (by simpa using dE nx.out.ne),nx.out.Km,nx.out.Nu,nx.out.ne⟩
 have U2:AW s b2 w w3:=by have h1:=Z0.out;have h2:=nU.out;refine⟨Oi.os.trans (h2.os.trans h1.os),Oi.tape.trans (h2.tape.trans h1.tape),Oi.output.trans (h2.output.trans h1.output),jm h1.size (jm h2.size Oi.size),fun k hk e1 e2=>?_⟩;have s1:=h1.size;have s2:=h2.size;rw[Oi.block k oX (by simpa using e2),h2.block k oX (by simpa using e1),h1.block k hk e1 e2]
 have U3:w3.heap[p]?=some (.cells #[.int .i64 who,.slice r m c] 83 (0,0)):=by rw[Oi.block p (dh En.out).1 (by simpa using Z1)];exact En
 have hr3:Rd .i64 w3 r run:=by have g2:=nU.out;have h2:Rd .i64 w2 r run:=AW.rd (s:=s) (b:=b2) Ot ⟨g2.os,g2.tape,g2.output,g2.size,fun k hk e1 _=>g2.block k hk (by simpa using e1)⟩ HRN;exact AW.rd (s:=s) (b:=b2) h2 (AW.FL Oi) HRN
 obtain⟨vC,tK,Eo,SB⟩:=ia SZ U2 U3 hr3;have q0:=cr w3 p 0 _ _ _ U3;have q1:=cr w3 p 1 _ _ _ U3;simp only[List.getElem?_toArray,List.getElem?_cons_zero,List.getElem?_cons_succ]at q0 q1;clear SZ U2 U3 hr3 ah8 Oi nx En nU Z0 Ot;go_wp2;go_loopw [5,27] (fun _ i wr=>∃j:Nat,j≤m∧i=.int .i64 j∧Hid (fH wr s b2 b1 j n1 (iC who (run.take j) f1) f1)∧Hid (AW s b2 w3 wr)) (fun _ i _=>m-(intOf i).toNat)
 case atStart=>exact⟨0,Nat.zero_le _,rfl,vC,⟨rfl,rfl,rfl,Nat.le_refl _,fun _ _ _ _=>rfl⟩⟩
 case round=>
  obtain⟨j,hj,rfl,HA,HB⟩:=hrel;have hpw:wr.heap[p]?=some (.cells #[.int .i64 who,.slice r m c] 83 (0,0)):=by rw[HB.out.block p (dh Eo.out).1 N9 Z1];exact Eo
  have e0:=cr wr p 0 _ _ _ hpw;simp only[List.getElem?_toArray,List.getElem?_cons_zero]at e0;clear hpw;by_cases dD:j<m
  ·obtain⟨b3,o3,rfl,hz⟩:=(AW.rd SB HB HRN).at j bo5
   have hzm:run.getD j 0∈run:=by
    have hj:j<run.length:=bo5;have:run.getD j 0=run[j]:=bt8
    rw[this];exact List.getElem_mem hj
   have hzw:=SY.out _ hzm;have jf:=fun g=>IL who run f1 j g bo5
   obtain⟨z,hzz⟩:=dC (run.getD j 0);rw[←hzz]at hz hzw jf;have HZW:=ag hzw;have pI:=ag jf;clear hzm hzz hzw jf;by_cases cM:z=who
   ·have V9:Hid (fH wr s b2 b1 (j+1) n1 (iC who (run.take (j+1)) f1) f1):=by
     refine⟨HA.out.aV,(HA.out.m1.congr fun g _=>?_).mono oX,HA.out.m2,HA.out.Km,HA.out.Nu,HA.out.ne⟩;rw[pI.out g,aE (by rintro⟨h1,h2⟩;exact h2 (h1.trans cM))]
    clear HA;go_wp2;go_roundw
    case rel=>exact⟨j+1,oX,bl2,V9,HB⟩
    case measure=>simp[intOf];omega
   ·have d0:=HA.out.c0;have d1:=HA.out.c1;have Aq:=(show jh {wr with drawn:=wr.drawn+1} b1 n1 f1 from HA.out.m2).lookup HZW;have hfz:=HF.out z;obtain⟨q,hq⟩:=dC (f1 z);rw[←hq]at Aq hfz;have HQ:=ag hq;clear hq;have BI:IntKind.i64.wrap (q+1)=q+1:=jX _ oX;go_wp2;have HWQ:=ag BI;clear BI;go_still_tail 12,kX;refine lX rfl (.tmp 43) (.tmp 44) rfl b1 (.int .i64 z) (.int .i64 q) rfl rfl Aq ?_;still_step;refine wpStill_nil ?_;change wpList _ _ _ _ _ wr.drew;refine uZ rfl (.tmp 38) (.tmp 39) (.tmp 46) rfl b2 j (iC who (run.take j) f1) z (IntKind.i64.wrap (q+1)) rfl (show jh wr.drew b2 j _ from HA.out.m1) bj4 rfl rfl HZW (by rw[HWQ.out];simp[Lit.wf,IntKind.min,IntKind.max,IntKind.signed,IntKind.bits];omega) ?_;intro w5 tn Mb;have hg5:wr.grownBy w5 (some b2):=⟨Mb.os,Mb.tape,Mb.output,Mb.size,Mb.block⟩;clear Mb;rw[HWQ.out]at tn
    have V9:Hid (fH w5 s b2 b1 (j+1) n1 (iC who (run.take (j+1)) f1) f1):=by
     refine⟨(hg5.block s HA.out.lt (by simpa using dE HA.out.Km)).trans HA.out.aV,tn.congr fun g _=>?_,HA.out.m2.kept (row:=some b2) hg5 (by simpa using dE HA.out.ne),HA.out.Km,HA.out.Nu,HA.out.ne⟩;rw[pI.out g,HQ.out];by_cases hgz:g=z
     ·subst hgz;rw[aF rfl,aF ⟨rfl,cM⟩]
     ·rw[aE hgz,aE (fun h=>hgz h.1)]
    have HB':Hid (AW s b2 w3 w5):=HB.out.trans (AW.FL hg5);clear HA HB tn hg5 Aq d0 d1;go_wp2;go_roundw
    case rel=>exact⟨j+1,oX,bl2,V9,HB'⟩
    case measure=>simp[intOf];omega
  ·obtain rfl:j=m:=by omega
   have V9:Hid (fH wr s b2 b1 j n1 (iC who run f1) f1):=(by have:=HA.out;rw[yl (by rw[←HM.out];exact Nat.le_refl _)]at this;exact this);have HB':Hid (AW s b2 w wr):=tK.out.trans HB;clear HA HB;go_wp2;exact bodyPost_end (v:=.tuple #[]) (results_none rfl _ _ _) rfl ⟨rfl,V9,HB'⟩
theorem DU(w:World):Calls prog 27 #[] w fun e w'=>∃s b1 b2,e=.returned (.pointer (some ⟨s,0,none⟩))∧fH w' s b1 b2 0 0 (fun _=>0) (fun _=>0)∧Below w.heap.size w w'∧w.heap.size≤s∧w.heap.size≤b1∧w.heap.size≤b2:=by
 have sN:∀W:World,(Instr.makeMap 120 none).run prog W=.ok (.map (some W.heap.size)) (W.alloc (.map #[] 0)):=fun W=>by simp[Instr.makeMap,run_underlying underlying120]
 go_enter func27,ntmps27;go_wp2;go_ret;have s1:(w.alloc (.map #[] 0)).heap.size=w.heap.size+1:=sX
 have s2:((w.alloc (.map #[] 0)).alloc (.map #[] 0)).heap.size=w.heap.size+1+1:=sX
 have o1:=jh.cZ w;have o2:=jh.cZ (w.alloc (.map #[] 0));have mz:=(fp (w.alloc (.map #[] 0)).heap.size (w.alloc (.map #[] 0))).alloc cG (.map #[] 0);have Hl:=(fp ((w.alloc (.map #[] 0)).alloc (.map #[] 0)).heap.size ((w.alloc (.map #[] 0)).alloc (.map #[] 0))).alloc cG (.cells #[.map (some w.heap.size),.map (some (w.heap.size+1))] 122);rw[s1]at o2;refine⟨_,w.heap.size,w.heap.size+1,rfl,⟨by rw[←s2];exact dP _ _,(o1.below mz).below Hl,o2.below Hl,oX,oX,oX⟩,((((fp _ _).alloc cG _).alloc bl0 _).alloc bl8 _),oX,oX,oX⟩
def qV(f:Int→Int)(who:Int)(l:List Int):Int:=l.foldl (fun who g=>if f who<f g then g else who) who
theorem Mz(f:Int→Int)(who:Int)(l:List Int)(g:Int):qV f who (l++[g])=if f (qV f who l)<f g then g else qV f who l:=by unfold qV;rw[List.foldl_append];rfl
theorem sw(f:Int→Int):∀(l:List Int) (who:Int),qV f who l=who∨qV f who l∈l
 | [],_=> .inl rfl
 |g::l,who=>by
  unfold qV;rw[List.foldl_cons];rcases sw f l (if f who<f g then g else who)with h|h
  ·unfold qV at h;rw[h];split
   ·exact .inr sX
   ·exact .inl rfl
  ·exact .inr (nO _ h)
theorem Gg{s b1 b2 n1 n2 m:Nat}{f1 f2:Int→Int}{run:List Int}(r:Option Addr)(c:Nat)(k:Int)(n:Nat)(w:World)(hm:m=run.length)(ap9:m≤20)(h0:0<m)(hA:fH w s b1 b2 n1 n2 f1 f2)(hr:Rd .i64 w r run)(SX:∀z∈run,(Lit.int .i64 z).wf=true)(hf:∀g,0≤f1 g∧f1 g≤1000000)(hk:0≤k∧k≤1000000)(hn:n≤1000):Calls prog 29 #[.pointer (some ⟨s,0,none⟩),.slice r m c,I k,I n] w fun e w'=>e=.returned (.tuple #[I (qV f1 (run.getD 0 0) run),.bool (decide (k≤f1 (qV f1 (run.getD 0 0) run)+n))])∧∃d,w'=w.drewN d:=by
 obtain⟨HM,HA,HR,HF,SY⟩:=jW hm hA hr hf SX;have Dj:=hA.c0;obtain⟨b,off,rfl,fa⟩:=hr.2 (by rw[←hm];exact h0);have e0:=fa 0 (by rw[←hm];exact h0);obtain⟨x0,Hm⟩:=dC (run.getD 0 0);rw[←Hm]at e0 ⊢;rw[Nat.add_zero]at e0;have HX0:=ag Hm;have BJ:=ag fa;clear hm hA hr SX hf fa Hm;go_enter func29,ntmps29;go_wp2;clear e0;go_loopw [10,18] (fun who i wr=>∃j:Nat,i=.int .i64 j∧j≤m∧who=I (qV f1 x0 (run.take j))∧Hid (∃d,wr=w.drewN d)) (fun _ i _=>m-(intOf i).toNat)
 case atStart=>exact⟨0,rfl,oX,rfl,0,rfl⟩
 case round=>
  obtain⟨j,rfl,hj,rfl,HD⟩:=hrel;have j8:∀a,wr.cell? a=w.cell? a:=fun a=>by obtain⟨d,hd⟩:=HD.out;rw[hd];rfl
  have uY:run.take m=run:=by rw[HM.out];exact List.take_length
  by_cases dD:j<m
  ·obtain⟨y,hy⟩:=dC (run.getD j 0);have ey:wr.cell? ⟨b,off+j,none⟩=some (I y):=by rw[j8,hy];exact BJ j bo5
   have Wa:run[j]?=some y:=(by rw[hy,yk,fv bo5];rfl);have XL:=SY.out y (lf Wa);obtain⟨wh,gp⟩:=dC (qV f1 x0 (run.take j))
   have Qg:(Lit.int .i64 wh).wf=true:=by
    rcases sw f1 (run.take j) x0 with h|h
    ·exact be1
    ·rw[gp];exact SY _ (List.mem_of_mem_take h)
   have XU:jh {wr with drawn:=wr.drawn+1} b1 n1 f1:=(by obtain⟨d,hd⟩:=HD.out;rw[hd];exact HA.out.m1);have l1:=XU.lookup XL;have l2:=XU.lookup Qg;have d0:wr.cell? ⟨s,0,none⟩=some (.map (some b1)):=(by rw[j8];exact Dj);have Cf:qV f1 x0 (run.take (j+1))=if f1 wh<f1 y then y else wh:=by rw[ox Wa,Mz,←gp]
   rw[←gp];obtain⟨fy,hfy⟩:∃q,q=f1 y:=⟨_,rfl⟩;obtain⟨fw,WX⟩:∃q,q=f1 wh:=⟨_,rfl⟩;rw[←hfy]at l1;rw[←WX]at l2;rw[←hfy,←WX]at Cf;have HN:=ag Cf;obtain⟨L1,L2⟩:=dA l1 l2;clear hy Wa XL gp Qg hfy WX Cf l1 l2 j8 XU;go_upto_region 5 with fail
   go_still_tail 12,kX;refine lX rfl (.tmp 25) (.tmp 26) rfl b1 (I y) (I fy) rfl rfl L1 ?_;repeat still_step
   refine lX rfl (.tmp 31) (.tmp 32) rfl b1 (I wh) (I fw) rfl rfl L2 ?_;refine wpStill_nil ?_;change wpList _ _ _ _ _ wr.drew;have HD2:Hid (∃d,wr.drew=w.drewN d):=(by obtain⟨d,hd⟩:=HD.out;exact⟨d+1,bu6⟩);clear L1 L2 HD d0 ey;by_cases Xu:fw<fy
   ·have hN:=HN.out;rw[aF Xu]at hN;have KG:Hid (I y=I (qV f1 x0 (run.take (j+1)))):=(by rw[hN];rfl);exact bd0
   ·have hN:=HN.out;rw[aE Xu]at hN;have KG:Hid (I wh=I (qV f1 x0 (run.take (j+1)))):=(by rw[hN];rfl);exact bd0
  ·obtain rfl:j=m:=by omega
   rw[uY];obtain⟨wh,gp⟩:=dC (qV f1 x0 run)
   have Qg:(Lit.int .i64 wh).wf=true:=by
    rcases sw f1 run x0 with h|h
    ·exact be1
    ·rw[gp];exact SY _ h
   have XU:jh {wr with drawn:=wr.drawn+1} b1 n1 f1:=(by obtain⟨d,hd⟩:=HD.out;rw[hd];exact HA.out.m1);have l2:=XU.lookup Qg;have d0:wr.cell? ⟨s,0,none⟩=some (.map (some b1)):=(by rw[j8];exact Dj);have hfb:=HF.out wh;rw[←gp];obtain⟨fw,WX⟩:∃q,q=f1 wh:=⟨_,rfl⟩;rw[←WX]at l2 hfb;obtain⟨L2,HWH,TD⟩:=ij l2 gp WX;clear l2 Qg gp XU j8 uY WX;go_upto_region 8 with fail
   refine wp_region_still_lit kX kX ?_;repeat still_step
   refine lX rfl (.tmp 42) (.tmp 43) rfl b1 (I wh) (I fw) rfl rfl L2 ?_;repeat still_step
   refine wpStill_nil ?_;go_wp2;go_ret2;obtain⟨d,hd⟩:=HD.out;refine⟨?_,d+1,bu6⟩;rw[←HWH.out,←TD.out];have hwr:IntKind.i64.wrap (fw+(n:Int))=fw+n:=jX _ oX;rw[hwr];rfl
end Go.Proofs.YtadifmnmfnihdaaGreat
