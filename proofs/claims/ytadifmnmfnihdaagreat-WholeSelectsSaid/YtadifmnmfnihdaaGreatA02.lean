import Derived.Test.YtadifmnmfnihdaaGreatA00
set_option linter.all false
set_option maxRecDepth 100000
set_option maxHeartbeats 40000000
namespace Go.Proofs.YtadifmnmfnihdaaGreat
open Go.RowKit Mach Go.Proofs.Tryz
def nK(size NR most:Int):Bool:=decide (0≤size)&&decide (size≤64)&&decide (0≤NR)&&decide (NR≤8)&&decide (1≤most)&&decide (most≤16)
theorem Hp(a b c:Int)(w:World):Calls prog 44 #[I a,I b,I c] w (eL (.bool (nK a b c)) fun w'=>w=w'):=by
 go_enter func44,ntmps44;go_wp2
 all_goals
  go_ret;refine⟨?_,rfl⟩;unfold nK;simp_all;try omega
theorem BB(a b c:Int)(w:World):Calls prog 136 #[I a,I b,I c] w (eL (.bool (nK a b c)) fun w'=>w=w'):=by
 go_enter func136,ntmps136;go_wp2
 all_goals
  go_ret;refine⟨?_,rfl⟩;unfold nK;simp_all;try omega
theorem et{P:Program}(t e:TypeId)(i:TypeInfo)(z:Value)(ht:P.underlying t=some (.slice e))(hi:P.info? e=some i)(hz:i.zero=some z)(kl kc:IntKind)(n c:Nat)(JU:n≤c)(NM:i.bytes*c≤281474976710656)(h63:c≤9223372036854775807)(w:World):(Instr.makeSlice t (.int kl (n:Int)) (.int kc (c:Int))).run P w=.ok (.slice (some ⟨w.heap.size,0,none⟩) n c) (w.alloc (.cells (madeCells z.cells (c*i.size)) e)):=by
 have hb:(i.bytes:Int)*(c:Int)≤281474976710656:=by
  have h:((i.bytes*c:Nat):Int)≤281474976710656:=by omega
  rwa [Int.natCast_mul]at h
 have hr:=run_make (P:=P) w t e i z ht hi hz kl kc n c (by omega) (by omega) hb (by omega);simp only[oU]at hr;exact hr
theorem Sd:(prog.info? 154).map (fun i=>(i.zero,i.size,i.bytes))=some (some (.agg #[I 0,B false]),2,16):=by kernel_rfl
theorem Se:(prog.info? 169).map (fun i=>(i.zero,i.size,i.bytes))=some (some (.agg #[I 0,I 0,I 0]),3,24):=by kernel_rfl
theorem Sf:(prog.info? 163).map (fun i=>(i.zero,i.size,i.bytes))=some (some (.agg #[I 0,I 0,I 0]),3,24):=by kernel_rfl
theorem NS:(prog.info? 28).map (fun i=>(i.zero,i.size,i.bytes))=some (some (.slice none 0 0),1,24):=by kernel_rfl
theorem YC:(prog.info? 4).map (fun i=>(i.zero,i.size,i.bytes))=some (some (B false),1,1):=by kernel_rfl
theorem yx(z:Array Value)(k:Nat)(hk:z.size=k)(h0:0<k):∀n,(madeCells z (n*k)).toList=bT (fun(_:Nat) (_:Unit)=>z.toList) 0 (List.replicate n ()):=by
 intro n;apply List.ext_getElem?;intro j;have hl:(bT (fun(_:Nat) (_:Unit)=>z.toList) 0 (List.replicate n ())).length=n*k:=by rw[dX (k:=k) (by simpa using hk)];simp
 by_cases hj:j<n*k
 ·have hd:=Nat.div_add_mod j k;have hm:=Nat.mod_lt j h0;have hq:j / k<n:=Nat.div_lt_of_lt_mul (by rw[Nat.mul_comm];exact hj);have h1:=fq (f:=fun(_:Nat) (_:Unit)=>z.toList) (k:=k) (by simpa using hk) (List.replicate n ()) 0 (j / k) (j % k) () (by rw[uA,aF hq]) hm;rw[show j / k*k+j % k=j by rw[Nat.mul_comm];exact hd]at h1;rw[h1];simp only[madeCells,Array.toList_map,Array.toList_range,na];rw[List.getElem?_range hj];simp only[km,hk];rw[Array.getElem?_toList,xL (by omega)];congr 1;rw[getElem!_pos z (j % k) (by omega)]
 ·rw[rq (by simp[size_madeCells];omega),rq (by omega)]
theorem vL{α:Type}(f:Nat→α→List Value)(a:α)(l:List Value)(h:∀i,f i a=l):∀n i,bT (fun(_:Nat) (_:Unit)=>l) i (List.replicate n ())=bT f i (List.replicate n a)
 |0,i=>rfl
 |n+1,i=>by simp only[List.replicate_succ,bT,h,vL f a l h n (i+1)]
theorem gz{α:Type}{f:Nat→α→List Value}{a:α}{z:Array Value}(h:∀i,f i a=z.toList)(h0:0<z.size)(n:Nat):(madeCells z (n*z.size)).toList=bT f 0 (List.replicate n a):=by
 rw[yx z z.size rfl h0,vL f a z.toList h]
theorem Hq{w:World}{B e g n:Nat}{xs:List Value}(h:w.ownsRow B e 1 (.slice (some ⟨g,0,none⟩) n n) n xs):w.heap[g]?=some (.cells xs.toArray e (0,0)):=by
 rcases h.2 with⟨h',_⟩|⟨g',cap,cur,h',hb,hg,JU,K8,fa,ht⟩
 ·simp at h'
 ·simp only[Value.slice.injEq,oZ,Addr.mk.injEq,and_true,true_and]at h';obtain⟨rfl,rfl⟩:=h';rw[hg];have:cur.toList=xs:=by rw[←ht,yl (by simp[fa])]
  rw[←this]
theorem xO:(prog.info? 240).map (fun i=>(i.zero,i.size,i.bytes))=some (some (U 0),1,2):=by kernel_rfl
theorem rO{α:Type}(f:α→Value):∀(l:List α) (i:Nat),bT (fun _ x=>[f x]) i l=l.map f
 | [],_=>rfl
 |x::l,i=>by simp[bT,rO f l]
theorem Az(n:Nat)(h0:0<n)(hn:n≤64)(w:World):Calls prog 80 #[I n] w fun e w'=>∃b g cur,e=.returned (.pointer (some ⟨b,0,none⟩))∧w'.heap[b]?=some (.cells #[.slice (some ⟨g,0,none⟩) n n] 157 (0,0))∧w'.heap[g]?=some (.cells cur 154 (0,0))∧cur.toList=bT ry 0 (List.replicate n (0,false))∧w.heap.size≤b∧w.heap.size≤g∧b≠g∧Below w.heap.size w w':=by
 obtain⟨i0,hi,fV,gF,gG⟩:=info_parts Sd;have sN:=fun W=>et (P:=prog) 155 154 i0 _ underlying155 hi fV .i64 .i64 n n cG (by rw[gG];omega) (by omega) W
 rw[gF]at sN;clear hi fV gF gG;go_enter func80,ntmps80;go_wp2;go_ret;have s1:(w.alloc (.cells (madeCells #[I 0,B false] (n*2)) 154)).heap.size=w.heap.size+1:=by simp
 refine⟨_,w.heap.size,_,rfl,by rw[←s1];exact dP _ _,(gf _ _ _ (by rw[s1];omega)).trans (dP _ _),gz (f:=ry) (a:=((0:Int),false)) (z:=#[I 0,B false]) (fun _=>rfl) (by decide) n,by omega,by omega,by omega,((fp _ _).alloc cG _).alloc (by rw[s1];omega) _⟩
theorem Cz(l:List Int)(n:Nat)(hn:n=l.length)(a:Option Addr)(c:Nat)(w:World)(h:Rd .u16 w a l)(hs:n≤300):Calls prog 82 #[.slice a n c] w fun e w'=>∃b g,e=.returned (.pointer (some ⟨b,0,none⟩))∧w'.heap[b]?=some (.cells #[.slice (some ⟨g,0,none⟩) n n,I 0] 152 (0,0))∧w'.heap[g]?=some (.cells (l.map U).toArray 240 (0,0))∧w.heap.size≤b∧w.heap.size≤g∧b≠g∧Below w.heap.size w w':=by
 obtain⟨i0,hi,fV,gF,gG⟩:=info_parts xO;have Hn:=ag hn;clear hn;have H1:=ag h;clear h;go_enter func82,ntmps82;go_wp2_with (at_make;go_loud (refine wpList_make_full _ rfl _ _ 25 rfl w.heap.size 240 i0 (U 0) 1 underlying25 hi fV gF _ _ _ _ n rfl rfl rfl rfl (by rw[gG];omega) (by unfold maxLen;omega) cG ?_));intro w1 hown bX;have gq:Below w.heap.size w w1:=(fp _ _).grown bX cG (by intro k hk;cases hk);rw[toList_madeCells_one]at hown;have mA:=Hq hown;have AA:=ag mA;obtain⟨cs,fa⟩:=dC (l.map U);have Sg:=ag fa;have cP:cs.length=n:=by rw[Sg.out,ko,Hn.out]
 have qz:=ag cP;clear hown bX fa mA cP;go_wp2_with (with_reducible refine wpList_copy_splice rfl (.tmp 7) (.tmp 8) 25 25 rfl 240 underlying25 (by kernel_rfl) _ _ _ _ _ _ rfl rfl w.heap.size 0 (List.replicate n (U 0)) 240 AA.out cs ?c1 ?c2 ?c3 ?c4 w.heap.size w gq cG ?_)
 case c1=>simp[qz.out]
 case c2=>
  intro h0;rw[qz.out,Hn.out]at h0;obtain⟨b,off,rfl,hc⟩:=(H1.out.below gq cG).2 h0;refine⟨_,rfl,fun j v hv=>?_⟩;rw[Sg.out,na]at hv
  have hj:j<l.length:=by
   rcases Nat.lt_or_ge j l.length with h|h
   ·exact h
   ·rw[rq h]at hv;cases hv
  rw[fv hj]at hv;rw[Addr.add_lit,hc j hj];simp at hv;rw[←hv];simp[List.getD,hj]
 case c3=>simp[qz.out]
 case c4=>
  intro v hv;rw[Sg.out]at hv;exact ints_oneCell _ _ v hv
 intro w2 HG mz;go_wp2;go_ret;have hG:=HG.out;have e1:splice (List.replicate n (U 0)) 0 cs=cs:=by simp[splice,qz.out]
 rw[e1]at hG;have Rq:=(dh hG).1;have vz:=mz.size;refine⟨_,w.heap.size,rfl,dP _ _,?_,by omega,Nat.le_refl _,by omega,mz.alloc vz _⟩;rw[gf _ _ _ Rq,hG,Sg.out]
theorem Hr(a b c:Int)(h:nK a b c=false)(w:World):Calls prog 78 #[I a,I b,I c] w (eL (.tuple #[.pointer none,I 1]) fun w'=>w=w'):=by
 have HF:=ag (fun w1=>BB a b c w1);rw[h]at HF;clear h;go_enter func78,ntmps78;go_wp2_with (go_at_call 136;refine(HF.out _).mono ?_;rintro e w2 ⟨rfl,rfl⟩);go_ret2;exact⟨rfl,rfl⟩
theorem CA(N n most:Nat)(hn:n≤8)(hN:N≤64)(gI:nK N n most=true)(w:World):Calls prog 78 #[I N,I n,I most] w fun e w'=>∃b g q cur yy,e=.returned (.tuple #[.pointer (some ⟨b,0,none⟩),I 0])∧w'.heap[b]?=some (.cells #[I N,I most,.slice (some ⟨g,0,none⟩) n n,.slice none 0 0,I 0,.slice (some ⟨q,0,none⟩) N N] 150 (0,0))∧w'.heap[g]?=some (.cells cur 28 (0,0))∧cur.toList=List.replicate n (.slice none 0 0)∧w'.heap[q]?=some (.cells yy 4 (0,0))∧yy.toList=(List.replicate N false).map B∧w.heap.size≤b∧w.heap.size≤g∧w.heap.size≤q∧b≠g∧b≠q∧g≠q∧Below w.heap.size w w':=by
 obtain⟨i0,hi,fV,gF,gG⟩:=info_parts NS;obtain⟨i1,ki,JV,JW,JX⟩:=info_parts YC;have sN:=fun W=>et (P:=prog) 38 28 i0 _ underlying38 hi fV .i64 .i64 n n cG (by rw[gG];omega) (by omega) W
 have Si:=fun W=>et (P:=prog) 88 4 i1 _ underlying88 ki JV .i64 .i64 N N cG (by rw[JX];omega) (by omega) W
 rw[gF]at sN;rw[JW]at Si;have HF:=ag (fun w1=>BB N n most w1);rw[gI]at HF;clear hi fV gF gG ki JV JW JX gI;go_enter func78,ntmps78;go_wp2_with (go_at_call 136;refine(HF.out _).mono ?_;rintro e w2 ⟨rfl,rfl⟩);go_region;all_goals go_wp2
 all_goals go_ret2
 ·generalize hx:madeCells #[Value.slice none 0 0] n=X;generalize hy:madeCells #[B false] N=Y;have s1:(w.alloc (.cells X 28)).heap.size=w.heap.size+1:=by simp
  have s2:((w.alloc (.cells X 28)).alloc (.cells Y 4)).heap.size=w.heap.size+1+1:=by simp
  have hbb:=fun o=>(((fp w.heap.size w).alloc cG (.cells X 28)).alloc (by rw[s1];omega) (.cells Y 4)).alloc (by rw[s2];omega) o
  refine⟨_,_,_,X,Y,rfl,by rw[←s2];exact dP _ _,(gf _ _ _ (by rw[s2];omega)).trans ((gf _ _ _ (by rw[s1];omega)).trans (dP _ _)),?_,(gf _ _ _ (by rw[s2];omega)).trans (by rw[←s1];exact dP _ _),?_,by omega,by omega,by omega,by omega,by omega,by omega,(hbb _).drew⟩
  ·rw[←hx];have:=gz (f:=fun _ _=>[Value.slice none 0 0]) (a:=()) (z:=#[Value.slice none 0 0]) (fun _=>rfl) (by decide) n;rw[rO (fun _=>Value.slice none 0 0)]at this;simpa using this
  ·rw[←hy];have:=gz (f:=fun _ x=>[B x]) (a:=false) (z:=#[B false]) (fun _=>rfl) (by decide) N;rw[rO B]at this;simpa using this
 ·generalize hx:madeCells #[Value.slice none 0 0] n=X;generalize hy:madeCells #[B false] N=Y;have s1:(w.alloc (.cells Y 4)).heap.size=w.heap.size+1:=by simp
  have s2:((w.alloc (.cells Y 4)).alloc (.cells X 28)).heap.size=w.heap.size+1+1:=by simp
  have hbb:=fun o=>(((fp w.heap.size w).alloc cG (.cells Y 4)).alloc (by rw[s1];omega) (.cells X 28)).alloc (by rw[s2];omega) o
  refine⟨_,_,_,X,Y,rfl,by rw[←s2];exact dP _ _,(gf _ _ _ (by rw[s2];omega)).trans (by rw[←s1];exact dP _ _),?_,(gf _ _ _ (by rw[s2];omega)).trans ((gf _ _ _ (by rw[s1];omega)).trans (dP _ _)),?_,by omega,by omega,by omega,by omega,by omega,by omega,(hbb _).drew⟩
  ·rw[←hx];have:=gz (f:=fun _ _=>[Value.slice none 0 0]) (a:=()) (z:=#[Value.slice none 0 0]) (fun _=>rfl) (by decide) n;rw[rO (fun _=>Value.slice none 0 0)]at this;simpa using this
  ·rw[←hy];have:=gz (f:=fun _ x=>[B x]) (a:=false) (z:=#[B false]) (fun _=>rfl) (by decide) N;rw[rO B]at this;simpa using this
def mQ(cur:Array Value)(k N j:Nat)(cs:List Value):Prop:=cur.size=N*k∧∀i q,i<j→q<k→cur[i*k+q]?=cs[q]?
theorem mQ.all{cur:Array Value}{k N:Nat}{cs:List Value}{α:Type}{f:Nat→α→List Value}{a:α}(h:mQ cur k N N cs)(hk:cs.length=k)(h0:0<k)(hf:∀i,f i a=cs):cur.toList=bT f 0 (List.replicate N a):=by
 rw[←vL f a cs hf];apply List.ext_getElem?;intro j;by_cases hj:j<N*k
 ·have hd:=Nat.div_add_mod j k;have hm:=Nat.mod_lt j h0;have hq:j / k<N:=Nat.div_lt_of_lt_mul (by rw[Nat.mul_comm];exact hj);have h1:=fq (f:=fun(_:Nat) (_:Unit)=>cs) (k:=k) (fun _ _=>hk) (List.replicate N ()) 0 (j / k) (j % k) () (by rw[uA,aF hq]) hm;rw[show j / k*k+j % k=j by rw[Nat.mul_comm];exact hd]at h1;rw[h1,←h.2 (j / k) (j % k) hq hm,show j / k*k+j % k=j by rw[Nat.mul_comm];exact hd,Array.getElem?_toList]
 ·rw[rq (by rw[Array.length_toList,h.1];omega),rq (by rw[dX (k:=k) (fun _ _=>hk)];simp;omega)]
theorem yz{wr:World}{g j N:Nat}{T:TypeId}{cur:Array Value}{a b c:Value}(f2:wr.heap[g]?=some (.cells cur T (0,0)))(hA:mQ cur 3 N j [a,b,c])(hj:j<N):∃YD,(((wr.setCell ⟨g,j*3,none⟩ a).setCell ⟨g,j*3+1,none⟩ b).setCell ⟨g,j*3+2,none⟩ c).heap[g]?=some (.cells YD T (0,0))∧mQ YD 3 N (j+1) [a,b,c]:=by
 have h1:=heap_setCell_same wr g (j*3) _ _ a f2;have h2:=heap_setCell_same _ g (j*3+1) _ _ b h1;have h3:=heap_setCell_same _ g (j*3+2) _ _ c h2;have hs:=hA.1;refine⟨_,h3,by simpa using hs,fun i q hi hq=>?_⟩;simp only[Array.getElem?_setIfInBounds,Array.size_setIfInBounds];by_cases K0:i=j
 ·subst K0;match q,hq with
  |0,_=>simp;omega
  |1,_=>simp;omega
  |2,_=>simp;omega
 ·rw[aE (by omega),aE (by omega),aE (by omega)];exact hA.2 i q (by omega) hq
theorem CC{wr:World}{g j b:Nat}(v0 v1 v2:Value)(h:b≠g):(((wr.setCell ⟨g,j*3,none⟩ v0).setCell ⟨g,j*3+1,none⟩ v1).setCell ⟨g,j*3+2,none⟩ v2).heap[b]?=wr.heap[b]?:=by
 rw[fQ _ _ _ _ (by simpa using h),fQ _ _ _ _ (by simpa using h),fQ _ _ _ _ (by simpa using h)]
theorem AD(N:Nat)(hN:N≤64)(w:World):Calls prog 79 #[I N,I 16] w fun e w'=>∃b g q cur yy,e=.returned (.tuple #[.pointer (some ⟨b,0,none⟩),I 0])∧w'.heap[b]?=some (.cells #[.slice (some ⟨g,0,none⟩) N N,.slice (some ⟨q,0,none⟩) 16 16] 167 (0,0))∧w'.heap[g]?=some (.cells cur 169 (0,0))∧cur.toList=bT oD 0 (List.replicate N {})∧w'.heap[q]?=some (.cells yy 163 (0,0))∧yy.toList=bT rG 0 (List.replicate 16 {})∧w.heap.size≤b∧w.heap.size≤g∧w.heap.size≤q∧b≠g∧b≠q∧g≠q∧Below w.heap.size w w':=by
 obtain⟨i0,hi,fV,gF,gG⟩:=info_parts Se;obtain⟨i1,ki,JV,JW,JX⟩:=info_parts Sf;have sN:=fun W=>et (P:=prog) 164 169 i0 _ underlying164 hi fV .i64 .i64 N N cG (by rw[gG];omega) (by omega) W
 have Si:∀W:World,(Instr.makeSlice 165 (I 16) (I 16)).run prog W=.ok (.slice (some ⟨W.heap.size,0,none⟩) 16 16) (W.alloc (.cells (madeCells (Value.agg #[I 0,I 0,I 0]).cells (16*i1.size)) 163)):=fun W=>et (P:=prog) 165 163 i1 _ underlying165 ki JV .i64 .i64 16 16 cG (by rw[JX];omega) (by omega) W
 rw[gF]at sN;rw[JW]at Si;clear hi fV gF gG ki JV JW JX;go_enter func79,ntmps79;go_wp2;go_region;generalize hx:madeCells #[I 0,I 0,I 0] (N*3)=X;generalize hy:madeCells #[I 0,I 0,I 0] 48=Y;have s1:(w.alloc (.cells X 169)).heap.size=w.heap.size+1:=by simp
 have s2:((w.alloc (.cells X 169)).alloc (.cells Y 163)).heap.size=w.heap.size+1+1:=by simp
 have F:∃b g q:Nat,b=w.heap.size+1+1∧g=w.heap.size∧q=w.heap.size+1:=⟨_,_,_,rfl,rfl,rfl⟩;obtain⟨b,g,q,hb,hg,hq⟩:=F;rw[←hb,←hq,←hg];obtain⟨w1,jk⟩:=dC ((((w.alloc (.cells X 169)).alloc (.cells Y 163)).alloc (.cells #[.slice (some ⟨g,0,none⟩) N N,.slice (some ⟨q,0,none⟩) 16 16] 167)).drew);have hbb:Below w.heap.size w w1:=by rw[jk];exact((((fp w.heap.size w).alloc cG (.cells X 169)).alloc (by rw[s1];omega) (.cells Y 163)).alloc (by rw[s2];omega) _).drew
 have e1:w1.heap[b]?=some (.cells #[.slice (some ⟨g,0,none⟩) N N,.slice (some ⟨q,0,none⟩) 16 16] 167 (0,0)):=by rw[jk,hb,←s2];exact dP _ _
 have e2:w1.heap[g]?=some (.cells X 169 (0,0)):=by rw[jk,hg];exact(gf _ _ _ (by rw[s2];omega)).trans ((gf _ _ _ (by rw[s1];omega)).trans (dP _ _))
 have e3:w1.heap[q]?=some (.cells Y 163 (0,0)):=by rw[jk,hq];exact(gf _ _ _ (by rw[s2];omega)).trans (by rw[←s1];exact dP _ _)
 have d:w.heap.size≤b∧w.heap.size≤g∧w.heap.size≤q∧b≠g∧b≠q∧g≠q:=by omega
 rw[←jk];clear jk s1 s2 hb hg hq;rotate_left;generalize hx:madeCells #[I 0,I 0,I 0] (N*3)=X;generalize hy:madeCells #[I 0,I 0,I 0] 48=Y;have s1:(w.alloc (.cells Y 163)).heap.size=w.heap.size+1:=by simp
 have s2:((w.alloc (.cells Y 163)).alloc (.cells X 169)).heap.size=w.heap.size+1+1:=by simp
 have F:∃b g q:Nat,b=w.heap.size+1+1∧g=w.heap.size+1∧q=w.heap.size:=⟨_,_,_,rfl,rfl,rfl⟩;obtain⟨b,g,q,hb,hg,hq⟩:=F;rw[←hb,←hg,←hq];obtain⟨w1,jk⟩:=dC ((((w.alloc (.cells Y 163)).alloc (.cells X 169)).alloc (.cells #[.slice (some ⟨g,0,none⟩) N N,.slice (some ⟨q,0,none⟩) 16 16] 167)).drew);have hbb:Below w.heap.size w w1:=by rw[jk];exact((((fp w.heap.size w).alloc cG (.cells Y 163)).alloc (by rw[s1];omega) (.cells X 169)).alloc (by rw[s2];omega) _).drew
 have e1:w1.heap[b]?=some (.cells #[.slice (some ⟨g,0,none⟩) N N,.slice (some ⟨q,0,none⟩) 16 16] 167 (0,0)):=by rw[jk,hb,←s2];exact dP _ _
 have e3:w1.heap[q]?=some (.cells Y 163 (0,0)):=by rw[jk,hq];exact(gf _ _ _ (by rw[s2];omega)).trans ((gf _ _ _ (by rw[s1];omega)).trans (dP _ _))
 have e2:w1.heap[g]?=some (.cells X 169 (0,0)):=by rw[jk,hg];exact(gf _ _ _ (by rw[s2];omega)).trans (by rw[←s1];exact dP _ _)
 have d:w.heap.size≤b∧w.heap.size≤g∧w.heap.size≤q∧b≠g∧b≠q∧g≠q:=by omega
 rw[←jk];clear jk s1 s2 hb hg hq
 all_goals
  have hX:X.size=N*3:=by rw[←hx];exact size_madeCells _ _
  have hY:Y.size=16*3:=by rw[←hy];exact size_madeCells _ _
  have hR:Hid (w1.heap[b]?=some (.cells #[.slice (some ⟨g,0,none⟩) N N,.slice (some ⟨q,0,none⟩) 16 16] 167 (0,0))∧(∃cur,w1.heap[g]?=some (.cells cur 169 (0,0))∧mQ cur 3 N 0 [I (-1),I (-1),I (-1)])∧w1.heap[q]?=some (.cells Y 163 (0,0))∧Below w.heap.size w w1):=
   ⟨e1,⟨X,e2,hX,fun i q h=>aX h (by omega)⟩,e3,hbb⟩
  obtain⟨db,dg,dq,dbg,dbq,dgq⟩:=d;have c0:w1.cell? ⟨b,0,none⟩=some (.slice (some ⟨g,0,none⟩) N N):=by rw[cr _ _ _ _ _ _ e1];rfl
  have HY:=ag hY;clear sN Si hx hy e1 e2 e3 hbb hX hY;go_wp2;go_loopw [34] (fun i wr=>∃j:Nat,i=.int .i64 j∧j≤N∧Hid (wr.heap[b]?=some (.cells #[.slice (some ⟨g,0,none⟩) N N,.slice (some ⟨q,0,none⟩) 16 16] 167 (0,0))∧(∃cur,wr.heap[g]?=some (.cells cur 169 (0,0))∧mQ cur 3 N j [I (-1),I (-1),I (-1)])∧wr.heap[q]?=some (.cells Y 163 (0,0))∧Below w.heap.size w wr)) (fun i _=>N-(intOf i).toNat)
  case atStart=>exact⟨0,rfl,by omega,hR⟩
  case round=>
   clear hR c0;obtain⟨j,rfl,hj,HR⟩:=hrel;by_cases dD:j<N
   ·obtain⟨f1,⟨cur,f2,hA⟩,f3,hB⟩:=HR.out;have c0:wr.cell? ⟨b,0,none⟩=some (.slice (some ⟨g,0,none⟩) N N):=(by rw[cr _ _ _ _ _ _ f1];rfl);have t0:wr.cell? ⟨g,j*3,none⟩=some (cur[j*3]'(by rw[hA.1];omega)):=by rw[cr _ _ _ _ _ _ f2];exact xL _
    have t1:wr.cell? ⟨g,j*3+1,none⟩=some (cur[j*3+1]'(by rw[hA.1];omega)):=by rw[cr _ _ _ _ _ _ f2];exact xL _
    have t2:wr.cell? ⟨g,j*3+2,none⟩=some (cur[j*3+2]'(by rw[hA.1];omega)):=by rw[cr _ _ _ _ _ _ f2];exact xL _
    have u0:=iM wr g (j*3) _ _ f2;have u1:=iM wr g (j*3+1) _ _ f2;have u2:=iM wr g (j*3+2) _ _ f2;generalize cur[j*3]'(by rw[hA.1];omega)=v0 at t0;generalize cur[j*3+1]'(by rw[hA.1];omega)=v1 at t1;generalize cur[j*3+2]'(by rw[hA.1];omega)=v2 at t2;clear f1 f2 hA f3 hB;go_wp2;refine⟨⟨j+1,rfl,by omega,?_⟩,by simp[intOf];omega⟩;obtain⟨f1,⟨cur,f2,hA⟩,f3,hB⟩:=HR.out;exact⟨(CC _ _ _ dbg).trans f1,yz f2 hA dD,(CC _ _ _ (dE dgq)).trans f3,((hB.setCell dg _).setCell dg _).setCell dg _⟩
   ·obtain rfl:j=N:=by omega
    have c1:wr.cell? ⟨b,1,none⟩=some (.slice (some ⟨q,0,none⟩) 16 16):=by rw[cr _ _ _ _ _ _ HR.out.1];rfl
    have hR2:Hid (wr.heap[b]?=some (.cells #[.slice (some ⟨g,0,none⟩) j j,.slice (some ⟨q,0,none⟩) 16 16] 167 (0,0))∧(∃cur,wr.heap[g]?=some (.cells cur 169 (0,0))∧mQ cur 3 j j [I (-1),I (-1),I (-1)])∧(∃cur,wr.heap[q]?=some (.cells cur 163 (0,0))∧mQ cur 3 16 0 [I (-1),I (-1),I 0])∧Below w.heap.size w wr):=
     ⟨HR.out.1,HR.out.2.1,⟨Y,HR.out.2.2.1,HY.out,fun i q h=>aX h (by omega)⟩,HR.out.2.2.2⟩
    clear HR HY;go_wp2;go_loopw [50] (fun i wr=>∃k:Nat,i=.int .i64 k∧k≤16∧Hid (wr.heap[b]?=some (.cells #[.slice (some ⟨g,0,none⟩) j j,.slice (some ⟨q,0,none⟩) 16 16] 167 (0,0))∧(∃cur,wr.heap[g]?=some (.cells cur 169 (0,0))∧mQ cur 3 j j [I (-1),I (-1),I (-1)])∧(∃cur,wr.heap[q]?=some (.cells cur 163 (0,0))∧mQ cur 3 16 k [I (-1),I (-1),I 0])∧Below w.heap.size w wr)) (fun i _=>16-(intOf i).toNat)
    case atStart=>exact⟨0,rfl,by omega,hR2⟩
    case round=>
     clear hR2 c1;obtain⟨k,rfl,hk,HR⟩:=hrel;by_cases dD:k<16
     ·obtain⟨f1,f2,⟨cur,f3,hA⟩,hB⟩:=HR.out;have c0:wr.cell? ⟨b,1,none⟩=some (.slice (some ⟨q,0,none⟩) 16 16):=(by rw[cr _ _ _ _ _ _ f1];rfl);have t0:wr.cell? ⟨q,k*3,none⟩=some (cur[k*3]'(by rw[hA.1];omega)):=by rw[cr _ _ _ _ _ _ f3];exact xL _
      have t1:wr.cell? ⟨q,k*3+1,none⟩=some (cur[k*3+1]'(by rw[hA.1];omega)):=by rw[cr _ _ _ _ _ _ f3];exact xL _
      have t2:wr.cell? ⟨q,k*3+2,none⟩=some (cur[k*3+2]'(by rw[hA.1];omega)):=by rw[cr _ _ _ _ _ _ f3];exact xL _
      have u0:=iM wr q (k*3) _ _ f3;have u1:=iM wr q (k*3+1) _ _ f3;have u2:=iM wr q (k*3+2) _ _ f3;generalize cur[k*3]'(by rw[hA.1];omega)=v0 at t0;generalize cur[k*3+1]'(by rw[hA.1];omega)=v1 at t1;generalize cur[k*3+2]'(by rw[hA.1];omega)=v2 at t2;clear f1 f2 hA f3 hB;go_wp2;refine⟨⟨k+1,rfl,by omega,?_⟩,by simp[intOf];omega⟩;obtain⟨f1,⟨yy,f2,Lf⟩,⟨cur,f3,hA⟩,hB⟩:=HR.out;exact⟨(CC _ _ _ dbq).trans f1,⟨yy,(CC _ _ _ dgq).trans f2,Lf⟩,yz f3 hA dD,((hB.setCell dq _).setCell dq _).setCell dq _⟩
     ·obtain rfl:k=16:=by omega
      go_wp2;go_ret2;obtain⟨f1,⟨yy,f2,Lf⟩,⟨cur,f3,hA⟩,hB⟩:=HR.out;exact⟨b,g,q,yy,cur,rfl,f1,f2,Lf.all rfl (by decide) (fun _=>rfl),f3,hA.all rfl (by decide) (fun _=>rfl),db,dg,dq,dbg,dbq,dgq,hB⟩
theorem yA(w:World):Calls prog 81 #[I 0] w fun e w'=>∃b g cur,e=.returned (.pointer (some ⟨b,0,none⟩))∧w'.heap[b]?=some (.cells #[.slice (some ⟨g,0,none⟩) 0 0] 161 (0,0))∧w'.heap[g]?=some (.cells cur 3 (0,0))∧cur.size=0∧w.heap.size≤b∧w.heap.size≤g∧b≠g∧Below w.heap.size w w':=by
 obtain⟨i0,hi,fV,gF,gG⟩:=info_parts lC;have sN:∀W:World,(Instr.makeSlice 28 (I 0) (I 0)).run prog W=.ok (.slice (some ⟨W.heap.size,0,none⟩) 0 0) (W.alloc (.cells (madeCells (I 0).cells (0*i0.size)) 3)):=fun W=>et (P:=prog) 28 3 i0 _ underlying28 hi fV .i64 .i64 0 0 cG (by rw[gG];omega) (by omega) W
 clear hi fV gF gG;go_enter func81,ntmps81;go_wp2;have s1:(w.alloc (.cells (madeCells #[I 0] 0) 3)).heap.size=w.heap.size+1:=by simp
 have hbb:Hid (∀o,Below w.heap.size w ((w.alloc (.cells (madeCells #[I 0] 0) 3)).alloc o)):=fun o=>(((fp w.heap.size w).alloc cG (.cells (madeCells #[I 0] 0) 3)).alloc (by rw[s1];omega) o)
 have S1:=ag s1;clear s1 sN;go_loopw [16] (fun i wr=>i=.int .i64 0∧Hid (wr.heap=((w.alloc (Obj.cells (madeCells #[I 0] 0) 3)).alloc (Obj.cells #[Value.slice (some ⟨w.heap.size,0,none⟩) 0 0] 161)).heap∧Below w.heap.size w wr)) (fun i _=>0)
 case atStart=>exact⟨rfl,rfl,hbb.out _⟩
 case round=>
  obtain⟨rfl,HR⟩:=hrel;go_wp2;go_ret;obtain⟨h1,h2⟩:=HR.out;have s1:=S1.out;refine⟨_,w.heap.size,_,rfl,by rw[h1,←s1];exact dP _ _,by rw[h1];exact(gf _ _ _ (by rw[s1];omega)).trans (dP _ _),size_madeCells _ _,by omega,by omega,by omega,h2⟩
end Go.Proofs.YtadifmnmfnihdaaGreat
namespace Go.Proofs.YtadifmnmfnihdaaGreat.V
open Mach
def BC(l:List Nat):Int:=match l.head? with|some x=>x|none=> -1
def CD(l:List Nat):Int:=match l.getLast? with|some x=>x|none=> -1
theorem CE:BC []= -1:=rfl
theorem lF(x:Nat)(l:List Nat):BC (x::l)=x:=rfl
theorem CF:CD []= -1:=rfl
theorem jx(l:List Nat)(x:Nat):CD (l++[x])=x:=by simp[CD]
theorem nY(a b:List Nat):BC (a++b)=if a=[]then BC b else BC a:=by cases a<;>simp[BC]
theorem xP(a b:List Nat):CD (a++b)=if b=[]then CD a else CD b:=by
 rcases ym b with rfl|⟨b',y,rfl⟩
 ·simp
 ·simp only[yn,←List.append_assoc,jx];simp
theorem Sj{l:List Nat}(h:CD l= -1):l=[]:=by
 rcases ym l with rfl|⟨l',y,rfl⟩
 ·rfl
 ·rw[yn,jx]at h;omega
structure xQ(q:bf)(ls:List (List Nat)):Prop where
 len:q.bM.length=ls.length
 line:∀(k:Nat) l,ls[k]?=some l→q.bM[k]?=some {first:=BC l,last:=CD l,count:=l.length}
 thing:∀(k:Nat) (a b:List Nat) x,ls[k]?=some (a++x::b)→q.aS[x]?=some {pX:=k,behind:=BC b,ahead:=CD a}
 out:∀(x:Nat) t,q.aS[x]?=some t→(∀(k:Nat) l,ls[k]?=some l→x ∉ l)→t={}
 nodup:∀(k:Nat) l,ls[k]?=some l→l.Nodup
theorem jy:∀(n:Nat) (l:List Nat),l.Nodup→(∀x∈l,x<n)→l.length≤n
 |0,l,_,h=>by
  cases l with
  |nil=>simp
  |cons x l=>exact aX (h x (by simp)) (by omega)
 |n+1,l,hn,h=>by
  by_cases hm:n∈l
  ·have h1:=List.length_erase_of_mem hm
   have h2:=jy n (l.erase n) (hn.erase n) (fun x hx=>by
    have h3:=h x (List.mem_of_mem_erase hx);have h4:x≠n:=fun e=>by rw[e]at hx;exact(hn.mem_erase_iff.1 hx).1 rfl
    omega)
   omega
  ·exact Nat.le_succ_of_le (jy n l hn (fun x hx=>by
    have h3:=h x hx;have h4:x≠n:=fun e=>hm (e▸hx)
    omega))
section
variable{q:bf}{ls:List (List Nat)}
theorem xQ.lt(Q:xQ q ls){k x:Nat}{l:List Nat}(h:ls[k]?=some l)(hx:x∈l):x<q.aS.length:=by
 obtain⟨a,b,rfl⟩:=List.append_of_mem hx;exact(uC (Q.thing k a b x h)).1
theorem xQ.inj(Q:xQ q ls){k k' x:Nat}{l l':List Nat}(h:ls[k]?=some l)(hx:x∈l)(h':ls[k']?=some l')(th:x∈l'):k=k':=by
 obtain⟨a,b,rfl⟩:=List.append_of_mem hx;obtain⟨a',b',rfl⟩:=List.append_of_mem th;have e:=(Q.thing k a b x h).symm.trans (Q.thing k' a' b' x h');simp only[oZ,nf.mk.injEq]at e;omega
theorem xQ.small(Q:xQ q ls){k:Nat}{l:List Nat}(h:ls[k]?=some l):l.length≤q.aS.length:=jy _ _ (Q.nodup k l h) fun x hx=>Q.lt h hx
theorem xQ.first(Q:xQ q ls)(k:Nat):q.first k=match ls[k]? with|some (x::_)=>((x:Int),true)|_=>(0,false):=by
 unfold bf.first idx;simp only[Int.natCast_nonneg,dt,oU]
 cases h:ls[k]? with
 |none=>
  have:q.bM[k]?=none:=by rw[List.getElem?_eq_none_iff]at h ⊢;rw[Q.len];exact h
  simp[this]
 |some l=>
  rw[Q.line k l h]
  cases l with
  |nil=>simp
  |cons x l=>simp[lF];intro h;omega
theorem rP{k k':Nat}{l l' m:List Nat}(h:ls[k]?=some l)(h':(ls.set k m)[k']?=some l'):(k'=k∧l'=m)∨(k'≠k∧ls[k']?=some l'):=by
 rw[sW]at h';split at h'
 ·rename_i e;split at h'
  ·cases h';exact .inl ⟨e.symm,rfl⟩
  ·cases h'
 ·rename_i e;exact .inr ⟨fun x=>e x.symm,h'⟩
theorem yB{k:Nat}{l:List Nat}(h:ls[k]?=some l)(m:List Nat):(ls.set k m)[k]?=some m:=by
 rw[nH (cA h)]
theorem AE{l:List nf}{x:Nat}{t:nf}(h:l[x]?=some t)(y:Nat)(t':nf):(l.set y t')[x]?=if y=x then some t' else some t:=by
 rw[sW,h];split
 ·rename_i e;subst e;rw[aF (cA h)]
 ·rfl
theorem xQ.push(Q:xQ q ls){k x:Nat}{l:List Nat}(h:ls[k]?=some l)(hx:x<q.aS.length)(hn:∀(k:Nat) l,ls[k]?=some l→x ∉ l)(hb:q.aS.length≤1000):∃q',q.push k x=some (q',true)∧xQ q' (ls.set k (l++[x]))∧q'.aS.length=q.aS.length:=by
 obtain⟨t,ht⟩:∃t,q.aS[x]?=some t:=⟨_,fv hx⟩;have ht0:=Q.out x t ht hn;subst ht0;have hl:=Q.line k l h;have hs:=Q.small h;have vI:x ∉ l:=hn k l h;have vA:k<q.bM.length:=cA hl;have eK:kJ (l.length:Int)=true:=by unfold kJ;simp;omega
 have key:∀q':bf,q'.bM=q.bM.set k {first:=BC (l++[x]),last:=(x:Int),count:=((l++[x]).length:Int)}→
   q'.aS.length=q.aS.length→q'.aS[x]?=some {pX:=k,behind:= -1,ahead:=CD l}→
   (∀a y,l=a++[y]→q'.aS[y]?=some {pX:=k,behind:=x,ahead:=CD a})→
   (∀y,y≠x→(∀a,l≠a++[y])→q'.aS[y]?=q.aS[y]?)→xQ q' (ls.set k (l++[x])):=by
  intro q' h1 h2 h3 h4 h5;have j7:∀a y,l=a++[y]→y≠x:=fun a y e e'=>vI (by rw[e,←e'];simp)
  refine⟨by rw[h1];simp[Q.len],?_,?_,?_,?_⟩
  ·intro k' l' h';rcases rP h h' with⟨rfl,rfl⟩|⟨cM,h'⟩
   ·rw[h1,nH vA,jx]
   ·rw[h1,oA (dE cM)];exact Q.line k' l' h'
  ·intro k' a b y h';rcases rP h h' with⟨rfl,e⟩|⟨cM,h'⟩
   ·rcases ym b with rfl|⟨b',z,rfl⟩
    ·have e2:=List.append_inj' e (by simp);obtain⟨rfl,e3⟩:=e2;simp only[List.cons.injEq,and_true]at e3;subst e3;exact h3
    ·rw[yn]at e ⊢;rw[←sY,←List.append_assoc]at e;obtain⟨e1,e3⟩:=List.append_inj' e (by simp);simp only[List.cons.injEq,and_true]at e3;subst e3;have ai2:y≠z:=fun e'=>vI (by rw[←e1,e'];simp)
     rcases ym b' with rfl|⟨b2,u,rfl⟩
     ·rw[h4 a y e1.symm];simp[lF]
     ·rw[yn]at e1 ⊢;rw[h5 y ai2 (fun c hc=>?_),Q.thing k' a (b2++[u]) y (by rw[h,e1])]
      ·rw[nY,nY (b2++[u]),nY];simp
      ·have e4:=Q.nodup k' l h;rw[←e1]at e4 hc;rw[←sY,←List.append_assoc]at hc;obtain⟨_,e5⟩:=List.append_inj' hc (by simp);simp only[List.cons.injEq,and_true]at e5;subst e5;simp[tB]at e4
   ·have hy:y≠x:=fun e=>hn k' _ h' (by rw[e];simp)
    rw[h5 y hy (fun c hc=>?_)]
    ·exact Q.thing k' a b y h'
    ·exact cM (Q.inj (x:=y) h' (by simp) h (by rw[hc];simp))
  ·intro y t' NU Vw;have hy:y≠x:=fun e=>Vw k _ (yB h _) (by rw[e];simp)
   rw[h5 y hy (fun c hc=>Vw k _ (yB h _) (by rw[hc];simp))]at NU;refine Q.out y t' NU fun k' l' h' hm=>?_
   by_cases hk:k'=k
   ·subst hk;rw[h]at h';cases h';exact Vw k' _ (yB h _) (by simp[hm])
   ·exact Vw k' l' (by rw[oA (dE hk)];exact h') hm
  ·intro k' l' h';rcases rP h h' with⟨rfl,rfl⟩|⟨cM,h'⟩
   ·rw[tB];refine⟨Q.nodup k' l h,by simp,?_⟩;intro u hu v hv;simp at hv;subst hv;exact fun e=>vI (e▸hu)
   ·exact Q.nodup k' l' h'
 unfold bf.push idx;simp only[Int.natCast_nonneg,dt,oU,hl,ht];simp only[ne_eq,not_true_eq_false,dF,eK,m8];by_cases hz:CD l= -1
 ·have xq:=Sj hz;subst xq;rw[aF hz];refine⟨_,rfl,key _ ?_ (by simp[bf.fJ,bf.fe]) ?_ ?_ ?_,by simp[bf.fJ,bf.fe]⟩
  ·simp[bf.fJ,bf.fe,BC]
  ·simp only[bf.fJ,bf.fe];rw[AE ht];simp[CF]
  ·intro a y e;simp at e
  ·intro y hy _;simp only[bf.fJ,bf.fe];rw[oA (dE hy)]
 ·rw[aE hz];rcases ym l with rfl|⟨a,y,rfl⟩
  ·exact aX CF hz
  rw[yn]at*;have nI:=Q.thing k a [] y h;have Nd:y≠x:=fun e=>vI (by rw[e];simp)
  simp only[jx,nat?,Int.natCast_nonneg,dt,oU,bW,eN,nI,aE Nd];refine⟨_,rfl,key _ ?_ (by simp[bf.fJ,bf.fe]) ?_ ?_ ?_,by simp[bf.fJ,bf.fe]⟩
  ·simp only[bf.fJ,bf.fe];congr 2
   ·rw[nY (a++[y])];simp
   ·simp;omega
  ·simp only[bf.fJ,bf.fe];rw[AE (AE ht _ _ |>.trans (aF rfl)),aE Nd,jx]
  ·intro c u e;obtain⟨rfl,e2⟩:=List.append_inj' e (by simp);simp only[List.cons.injEq,and_true]at e2;subst e2;simp only[bf.fJ,bf.fe];rw[AE (AE nI x _ |>.trans (aE (dE Nd))),aF rfl]
  ·intro u hu j7;have YE:u≠y:=fun e=>j7 a (by rw[e])
   simp only[bf.fJ,bf.fe];rw[oA (dE YE),oA (dE hu)]
theorem xQ.CH(Q:xQ q ls){k x:Nat}{a b:List Nat}(h:ls[k]?=some (a++x::b))(q':bf)(h1:q'.bM=q.bM.set k {first:=BC (a++b),last:=CD (a++b),count:=((a++b).length:Int)})(h2:q'.aS.length=q.aS.length)(h3:q'.aS[x]?=some {})(h4:∀c y,a=c++[y]→q'.aS[y]?=some {pX:=k,behind:=BC b,ahead:=CD c})(h5:∀y d,b=y::d→q'.aS[y]?=some {pX:=k,behind:=BC d,ahead:=CD a})(h6:∀y,y≠x→(∀c,a≠c++[y])→(∀d,b≠y::d)→q'.aS[y]?=q.aS[y]?):xQ q' (ls.set k (a++b)):=by
 have fX:=Q.nodup k _ h;have vA:k<q.bM.length:=(uC (Q.line k _ h)).1;have YF:x ∉ a:=fun hm=>by rw[tB]at fX;exact fX.2.2 x hm x (by simp) rfl
 have hxb:x ∉ b:=fun hm=>by rw[tB]at fX;exact(List.nodup_cons.1 fX.2.1).1 hm
 have G3:∀y,y∈a→y∈b→False:=fun y hy uO=>by rw[tB]at fX;exact fX.2.2 y hy y (by simp[uO]) rfl
 have hna:a.Nodup:=by rw[tB]at fX;exact fX.1
 have EI:b.Nodup:=by rw[tB]at fX;exact(List.nodup_cons.1 fX.2.1).2
 refine⟨by rw[h1];simp[Q.len],?_,?_,?_,?_⟩
 ·intro k' l' h';rcases rP h h' with⟨rfl,rfl⟩|⟨cM,h'⟩
  ·rw[h1,nH vA]
  ·rw[h1,oA (dE cM)];exact Q.line k' l' h'
 ·intro k' a' b' y h';rcases rP h h' with⟨rfl,e⟩|⟨cM,h'⟩
  ·rcases List.append_eq_append_iff.1 e with⟨c,e1,e2⟩|⟨c,e1,e2⟩
   ·cases c with
    |nil=>
     simp only[List.nil_append,List.append_nil]at e1 e2;subst e1;rw[h5 y b' e2.symm]
    |cons z c=>
     simp only[sY,List.cons.injEq]at e2;obtain⟨rfl,rfl⟩:=e2;subst e1;rcases ym c with rfl|⟨c',u,rfl⟩
     ·rw[h4 a' y rfl];simp
     ·rw[yn]at*;rw[h6 y (fun e=>YF (by rw[←e];simp)) (fun d hd=>?_) (fun d hd=>G3 y (by simp) (by rw[hd];simp)),Q.thing k' a' (c'++[u]++x::b) y (by rw[h];simp)]
      ·rw[nY (c'++[u]),nY (c'++[u])];simp
      ·rw[←sY,←List.append_assoc]at hd;obtain⟨_,e5⟩:=List.append_inj' hd (by simp);simp only[List.cons.injEq,and_true]at e5;subst e5;simp[tB]at hna
   ·subst e1;rcases ym c with rfl|⟨c',u,rfl⟩
    ·simp only[List.nil_append,List.append_nil]at e2 ⊢;rw[h5 y b' e2]
    ·rw[yn]at*;have Vx:y∈b:=(by rw[e2];simp);rw[h6 y (fun e=>hxb (e▸Vx)) (fun d hd=>G3 y (by rw[hd];simp) Vx) (fun d hd=>?_),Q.thing k' (a++x::(c'++[u])) b' y (by rw[h,e2];simp)]
     ·rw[xP a (c'++[u]),show a++x::(c'++[u])=(a++x::c')++[u]by simp,jx,jx];simp
     ·rw[hd]at e2
      cases c' with
      |nil=>
       simp only[List.nil_append,sY,List.cons.injEq]at e2;rw[hd,e2.2]at EI;simp at EI
      |cons v c'=>
       simp only[sY,List.cons.injEq]at e2;rw[hd,e2.2]at EI;simp at EI
  ·have hy:y∈a'++y::b':=by simp
   rw[h6 y (fun e=>cM (Q.inj h' hy h (by rw[e];simp))) (fun d hd=>cM (Q.inj h' hy h (by rw[hd];simp))) (fun d hd=>cM (Q.inj h' hy h (by rw[hd];simp)))];exact Q.thing k' a' b' y h'
 ·intro y t' NU Vw;by_cases hy:y=x
  ·subst hy;rw[h3]at NU;cases NU;rfl
  have NV:=Vw k _ (yB h _);rw[h6 y hy (fun c hc=>NV (by rw[hc];simp)) (fun c hc=>NV (by rw[hc];simp))]at NU;refine Q.out y t' NU fun k' l' h' hm=>?_
  by_cases hk:k'=k
  ·subst hk;rw[h]at h'
   cases h';simp only[List.mem_append,iL]at hm NV;rcases hm with hm|hm|hm
   ·exact NV (.inl hm)
   ·exact hy hm
   ·exact NV (.inr hm)
  ·exact Vw k' l' (by rw[oA (dE hk)];exact h') hm
 ·intro k' l' h';rcases rP h h' with⟨rfl,rfl⟩|⟨cM,h'⟩
  ·rw[tB];exact⟨hna,EI,fun u hu v hv e=>G3 u hu (e▸hv)⟩
  ·exact Q.nodup k' l' h'
theorem xQ.ai3(Q:xQ q ls){k x:Nat}{a b:List Nat}(h:ls[k]?=some (a++x::b))(hb:q.aS.length≤1000):∃q',q.out x {pX:=k,behind:=BC b,ahead:=CD a}=some q'∧xQ q' (ls.set k (a++b))∧q'.aS.length=q.aS.length:=by
 have fX:=Q.nodup k _ h;have hl:=Q.line k _ h;have hs:=Q.small h;have vI:x<q.aS.length:=Q.lt h (by simp);have vA:k<q.bM.length:=cA hl;have eK:kJ ((a++x::b).length:Int)=true:=by unfold kJ;simp only[qs,decide_eq_true_eq];omega
 have YF:x ∉ a:=fun hm=>by rw[tB]at fX;exact fX.2.2 x hm x (by simp) rfl
 have hxb:x ∉ b:=fun hm=>by rw[tB]at fX;exact(List.nodup_cons.1 fX.2.1).1 hm
 have G3:∀y,y∈a→y∈b→False:=fun y hy uO=>by rw[tB]at fX;exact fX.2.2 y hy y (by simp[uO]) rfl
 obtain⟨tx,htx⟩:∃t,q.aS[x]?=some t:=⟨_,fv vI⟩;unfold bf.out;simp only[nat?,Int.natCast_nonneg,dt,oU,bW,eN,hl,eK,m8,dF];have Hs:((a++x::b).length:Int)-1=((a++b).length:Int):=by simp;omega
 rcases ym a with rfl|⟨a0,y,rfl⟩
 ·rw[aF CF]
  cases b with
  |nil=>
   simp only[eN,aF CE];refine⟨_,rfl,Q.CH h _ ?_ (by simp[bf.fJ,bf.fe]) ?_ ?_ ?_ ?_,by simp[bf.fJ,bf.fe]⟩
   ·simp only[bf.fJ,bf.fe];rw[Hs];rfl
   ·simp only[bf.fJ,bf.fe];rw[nH (by exact vI)]
   ·intro c y e;simp at e
   ·intro y d e;cases e
   ·intro y hy _ _;simp only[bf.fJ,bf.fe];rw[oA (dE hy)]
  |cons z b=>
   have hz:¬BC (z::b)= -1:=(by rw[lF];omega);have Sk:=Q.thing k [x] b z (by rw[h];simp);have YG:z≠x:=fun e=>hxb (by rw[e];simp)
   simp only[eN,aE hz];simp only[lF,Int.natCast_nonneg,dt,oU,eN,Sk,aE YG];refine⟨_,rfl,Q.CH h _ ?_ (by simp[bf.fJ,bf.fe]) ?_ ?_ ?_ ?_,by simp[bf.fJ,bf.fe]⟩
   ·simp only[bf.fJ,bf.fe];rw[Hs];simp only[List.nil_append,lF];rw[show x::z::b=[x]++(z::b)from rfl,xP];simp
   ·simp only[bf.fJ,bf.fe];rw[nH (by simpa using vI)]
   ·intro c y e;simp at e
   ·intro y d e;cases e;simp only[bf.fJ,bf.fe];rw[oA (dE YG),AE Sk,aF rfl]
   ·intro y hy _ h2;have hyz:y≠z:=fun e=>h2 b (by rw[e])
    simp only[bf.fJ,bf.fe];rw[oA (dE hy),oA (dE hyz)]
 ·rw[yn]at*;have NW:¬CD (a0++[y])= -1:=by rw[jx];omega
  have nI:=Q.thing k a0 (x::b) y (by rw[h];simp);have Nd:y≠x:=fun e=>YF (by rw[e];simp)
  rw[aE NW];simp only[jx,Int.natCast_nonneg,dt,oU,eN,nI,aE Nd]
  cases b with
  |nil=>
   simp only[eN,aF CE];refine⟨_,rfl,Q.CH h _ ?_ (by simp[bf.fJ,bf.fe]) ?_ ?_ ?_ ?_,by simp[bf.fJ,bf.fe]⟩
   ·simp only[bf.fJ,bf.fe];rw[Hs];simp only[List.append_nil,jx];rw[nY (a0++[y])];simp
   ·simp only[bf.fJ,bf.fe];rw[nH (by simpa using vI)]
   ·intro c u e;obtain⟨rfl,e2⟩:=List.append_inj' e (by simp);simp only[List.cons.injEq,and_true]at e2;subst e2;simp only[bf.fJ,bf.fe];rw[oA (dE Nd),AE nI,aF rfl]
   ·intro y d e;cases e
   ·intro u hu h1 _;have YE:u≠y:=fun e=>h1 a0 (by rw[e])
    simp only[bf.fJ,bf.fe];rw[oA (dE hu),oA (dE YE)]
  |cons z b=>
   have hz:¬BC (z::b)= -1:=(by rw[lF];omega);have YG:z≠x:=fun e=>hxb (by rw[e];simp)
   have hzy:z≠y:=fun e=>G3 z (by rw[e];simp) (by simp)
   have Sk:=Q.thing k (a0++[y]++[x]) b z (by rw[h];simp);have Vy:(q.aS.set y {pX:=(k:Int),behind:=BC (z::b),ahead:=CD a0})[z]?=some {pX:=(k:Int),behind:=BC b,ahead:=CD (a0++[y]++[x])}:=(by rw[AE Sk,aE (dE hzy)]);simp only[eN,aE hz];simp only[lF,Int.natCast_nonneg,dt,oU,eN,bf.fJ]at Vy ⊢;simp only[Vy,eN,aE YG];refine⟨_,rfl,Q.CH h _ ?_ (by simp[bf.fe]) ?_ ?_ ?_ ?_,by simp[bf.fe]⟩
   ·simp only[bf.fe];rw[Hs];congr 2
    ·rw[nY (a0++[y]),nY (a0++[y])];simp
    ·rw[show a0++[y]++x::z::b=(a0++[y]++[x])++z::b by simp,xP (a0++[y]++[x]),xP (a0++[y]) (z::b)];simp
   ·simp only[bf.fe];rw[nH (by simpa using vI)]
   ·intro c u e;obtain⟨rfl,e2⟩:=List.append_inj' e (by simp);simp only[List.cons.injEq,and_true]at e2;subst e2;simp only[bf.fe];rw[oA (dE Nd),oA hzy,AE nI,aF rfl,lF]
   ·intro u d e
    cases e;simp only[bf.fe];rw[oA (dE YG),AE Vy,aF rfl,jx]
   ·intro u hu h1 h2;have YE:u≠y:=fun e=>h1 a0 (by rw[e])
    have huz:u≠z:=fun e=>h2 b (by rw[e])
    simp only[bf.fe];rw[oA (dE hu),oA (dE huz),oA (dE YE)]
def iA(ls:List (List Nat))(x:Nat):List (List Nat):=ls.map (·.erase x)
theorem Lg{a b:List Nat}{x:Nat}(h:x ∉ a):(a++x::b).erase x=a++b:=by
 induction a with
 |nil=>simp
 |cons y a ih=>
  simp only[iL,not_or]at h;rw[sY,List.erase_cons_tail (by simpa using dE h.1),ih h.2,sY]
theorem xQ.drop(Q:xQ q ls){x:Nat}(hx:x<q.aS.length)(hb:q.aS.length≤1000):∃q' ok,q.drop x=some (q',ok)∧xQ q' (iA ls x)∧q'.aS.length=q.aS.length:=by
 obtain⟨t,ht⟩:∃t,q.aS[x]?=some t:=⟨_,fv hx⟩;unfold bf.drop idx;simp only[Int.natCast_nonneg,dt,oU,ht];by_cases kL:∃(k:Nat) (l:List Nat),ls[k]?=some l∧x∈l
 ·obtain⟨k,l,h,hm⟩:=kL;obtain⟨a,b,rfl⟩:=List.append_of_mem hm;have e:=Q.thing k a b x h;rw[ht]at e
  cases e;have h1:¬((k:Int)= -1):=by omega
  simp only[aE h1];obtain⟨q',h2,h3,h4⟩:=Q.ai3 h hb;rw[h2];refine⟨q',true,rfl,?_,h4⟩;have YF:x ∉ a:=fun hm=>by have:=Q.nodup k _ h;rw[tB]at this;exact this.2.2 x hm x (by simp) rfl
  have e2:iA ls x=ls.set k (a++b):=by
   apply List.ext_getElem?;intro i;unfold iA;rw[na];by_cases hi:i=k
   ·subst hi;rw[h,nH (cA h)];simp[Lg YF]
   ·rw[oA (dE hi)]
    cases hl:ls[i]? with
    |none=>rfl
    |some l'=>
     have:x ∉ l':=fun Ht=>hi (Q.inj hl Ht h (by simp))
     simp[List.erase_of_not_mem this]
  rw[e2];exact h3
 ·have YH:∀(k:Nat) (l:List Nat),ls[k]?=some l→x ∉ l:=fun k l h hm=>kL ⟨k,l,h,hm⟩
  have e:=Q.out x t ht YH;subst e;refine⟨q,false,rfl,?_,rfl⟩
  have e2:iA ls x=ls:=by
   apply List.ext_getElem?;intro i;unfold iA;rw[na]
   cases hl:ls[i]? with
   |none=>rfl
   |some l'=>simp[List.erase_of_not_mem (YH i l' hl)]
  rw[e2];exact Q
end
def aP(x:bI):cu:=(idx x.ops x.at_).getD {}
theorem qd{w:Wd}{g:Nat}{x:bI}(h:w.gs[g]?=some x):dH w g=aP x:=by unfold dH aP;rw[h];rfl
structure Vz(o:cu):Prop where
 k:1≤o.ai∧o.ai≤9
 ch:0≤o.ch∧o.ch≤8
 n:0≤o.n∧o.n≤4
 cl:o.cases.length≤6
 cs:∀c∈o.cases,0≤c.ch∧c.ch≤8
def aW(x:bI):Prop:=
 (aP x).ai≠9∧(x.ae=12∨x.ae=13∨x.ae=14)∨(aP x).ai=9∧(x.ae=29∨x.ae=30∧x.res.aJ=0∨x.ae=13∨x.ae=14)
def aT(x:bI):Prop:=x.ae=8∨x.ae=27
def bm(x:bI):Prop:=x.ae=7∨x.ae=26∨x.ae=23
def bC(x:bI):Nat:=
 if x.ae=24∨x.ae=30∨x.ae=31∨x.ae=33 then x.k.toNat
 else if 25≤x.ae∧x.ae≤29∨x.ae=32 then x.aq.length else 0
def cH(x:bI):Prop:=5≤x.ae∧x.ae≤12∨x.ae=16∨21≤x.ae∧x.ae≤23
def aL(x:bI)(c:Int):Prop:=if(aP x).ai=9 then c∈x.aq.take (bC x)else cH x∧c=(aP x).ch
def cV(o:cu)(C:Nat)(x:bI):Prop:=
 (x.res.aJ=1∨x.res.aJ=3)∧x.fire=x.res.case∧0≤x.res.case∧(∃c,o.cases[x.res.case.toNat]?=some c∧1≤c.ch∧c.ch≤C∧(x.res.aJ=3→c.cF=true))∨
 x.res.aJ=2∧o.dG=true∧x.res.case= -1∨x.res.aJ=6∧o.dG=false∧x.point=0
structure Clean(x:bI):Prop where
 aN:x.aN= -1
 bY:x.bY= -1
 wakes:x.wakes=[]
 bA:x.bA=[]
 bk:x.bk=false
 fire:x.fire= -1
 case:x.res.case= -1
 aJ:x.res.aJ=0
 point:x.point=0
 bJ:x.bJ=0
structure gU(C:Nat)(x:bI):Prop where
 ne:x.aH≠[]
 ord:∀i∈x.aH,0≤i∧∃c,(aP x).cases[i.toNat]?=some c∧1≤c.ch∧c.ch≤C∧c.ch∈x.aq
 nd:x.aH.Nodup
 len:x.aH.length≤6
 lk:∀l∈x.aq,1≤l∧l≤C
 BD:x.aq.Pairwise (· <·)
 Ei:x.aq≠[]
def bG(k p:Int):Bool:=
 if p=0∨p=18 then 1≤k&&k≤9
 else if p=1∨p=2 then k=4||k=5
 else if p=3 then k=5
 else if p=4∨p=16 then 2≤k&&k≤6
 else if p=5∨p=6∨p=7∨p=8∨p=9 then 2≤k&&k≤5
 else if p=10∨p=11∨p=12∨p=15 then k=2||k=3
 else if p=13∨p=14∨p=19 then k=2||k=3||k=9
 else if p=17 then 2≤k&&k≤6||k=9
 else if p=20 then k=1||k=7||k=8
 else if p=21∨p=22∨p=23 then k=6
 else if 24≤p∧p≤34 then k=9
 else false
def Ej(x:bI):Prop:=
 (x.ae=24∨x.ae=31→0≤x.k∧x.k<x.aq.length)∧(x.ae=30∨x.ae=33→1≤x.k∧x.k≤x.aq.length)∧
 (x.ae=25∨x.ae=26∨x.ae=27∨x.ae=28∨x.ae=29∨x.ae=32∨x.ae=34→0≤x.k∧x.k<x.aH.length)
structure nm(x:bI):Prop where
 none_:x.ae=24∨x.ae=25∨x.ae=26∨x.ae=27∨(x.ae=30∧(x.res.aJ=1∨x.res.aJ=2∨x.res.aJ=3))→x.bA=[]
 len:¬(x.ae=24∨x.ae=25∨x.ae=26∨x.ae=27∨(x.ae=30∧(x.res.aJ=1∨x.res.aJ=2∨x.res.aJ=3)))→x.bA.length=(aP x).cases.length
 own:∀(i:Nat) s,x.bA[i]?=some s→s≠ -1→0≤s∧(i:Int)∈x.aH
 all:x.ae=29∨(x.ae=30∧x.res.aJ=0)∨x.ae=13∨x.ae=14∨x.ae=31∨x.ae=32∨x.ae=33→∀i∈x.aH,∃s,x.bA[i.toNat]?=some s∧0≤s
 back:x.ae=34→∀(j:Nat) i,(j:Int)<x.k→x.aH[j]?=some i→x.bA[i.toNat]?=some (-1)
 more:x.ae=28→∀(j:Nat) i,x.k≤j→x.aH[j]?=some i→x.bA[i.toNat]?=some (-1)
 less:x.ae=28→∀(j:Nat) i,(j:Int)<x.k→x.aH[j]?=some i→∃s,x.bA[i.toNat]?=some s∧0≤s
structure Loc(C:Nat)(x:bI):Prop where
 JY:0≤x.at_∧x.at_≤x.ops.length∧x.ops.length≤16
 ops:∀o∈x.ops,Vz o
 Uy:x.ae≠0→x.at_<x.ops.length
 kp:x.ae≠0→bG (aP x).ai x.ae=true
 pl:0≤x.ae∧x.ae≤34
 begin:x.ae=0→Clean x
 cZ:(aP x).ai≠9→x.ae≠0→x.ae≠18→x.ae≠19→x.ae≠20→1≤(aP x).ch∧(aP x).ch≤C
 oW:(aP x).ai=9→x.ae≠0→x.ae≠17→x.ae≠18→x.ae≠19→gU C x∧Ej x∧nm x
 ready:x.ae=17→x.wakes≠[]
 uP:x.ae≠16→x.ae≠17→x.ae≠22→x.ae≠23→¬(x.ae=30∧x.res.aJ=1)→x.wakes=[]
 bY:(aP x).ai≠9→(x.ae=11∨x.ae=12∨x.ae=13∨x.ae=14∨x.ae=15)→0≤x.bY
 tI:(aP x).ai=9∨¬(x.ae=11∨x.ae=12∨x.ae=13∨x.ae=14∨x.ae=15)→x.bY= -1
 yC:(aP x).ai≠9→x.bA=[]
 rest:(aP x).ai=9→x.ae=17∨x.ae=18∨x.ae=19→∀s∈x.bA,s= -1
 br:aT x∨bm x→0≤x.br
 aN: -1≤x.aN∧(¬aW x→x.aN= -1)
 plain:(aP x).ai≠9→x.fire= -1∧x.res.case= -1∧x.bk=false
 cO:(aP x).ai=9→x.ae=24∨x.ae=25∨x.ae=26∨x.ae=28→x.bk=false∧x.point=0∧x.fire= -1∧x.res.case= -1∧x.res.aJ=0
 hand:x.ae=27→x.bk=false∧(∃j:Nat,x.k=j∧x.aH[j]?=some x.fire)∧x.res.aJ=0
 BE:(aP x).ai=9→x.ae=29∨x.ae=13∨x.ae=14→x.res.aJ=0
 bk:(aP x).ai=9→(aW x→0≤x.aN→x.bk=true)∧(x.ae=31∨x.ae=32→x.bk=true)
 dG:x.ae=28→(aP x).dG=false
 res:(aP x).ai=9→(x.ae=30∧x.res.aJ≠0)∨x.ae=31∨x.ae=32∨x.ae=33∨x.ae=34∨x.ae=17∨x.ae=18→cV (aP x) C x
 num: -1≤x.br
def eP(x:bI)(s:Nat)(sd:gn):Prop:=
 (aP x).ai≠9∧x.bY=s∧sd.case= -1∧sd.ch=(aP x).ch∧sd.cF=decide ((aP x).ai=2)∨
 (aP x).ai=9∧0≤sd.case∧x.bA[sd.case.toNat]?=some (s:Int)∧∃c,(aP x).cases[sd.case.toNat]?=some c∧sd.ch=c.ch∧sd.cF=c.cF
def eV(x:bI)(sd:gn):Prop:=
 (aP x).ai≠9∧(x.ae=12∨x.ae=13∨x.ae=14)∧x.aN= -1∨
 (aP x).ai=9∧(x.ae=29∧(∃j:Nat,(j:Int)<x.k∧x.aH[j]?=some sd.case)∨x.ae=30∧x.res.aJ=0∨x.ae=13∨x.ae=14∨x.ae=31∧(∃j:Nat,x.aH[j]?=some sd.case)∨x.ae=32∧∃j:Nat,x.k≤j∧x.aH[j]?=some sd.case)
def Lh(sd:gn):Int:=if sd.cF then 2*sd.ch-1 else 2*sd.ch-2
structure rQ(p:fS)(N n:Nat):Prop where
 ok:p.Ok
 size:p.size=N
 bV:p.bV.length=N
 aC:p.aC.length=n
 most:∀c∈p.aC,(c.length:Int)≤p.most
 nd:(p.aK++p.aC.flatten).Nodup
 kept:∀x∈p.aK++p.aC.flatten,0≤x∧p.bV[x.toNat]?=some true∧x<p.cO
 new:∀y:Nat,p.cO≤y→y<N→p.bV[y]?=some false
def lG(aq:List Int)(gs:List bI):Prop:=∀(c:Nat) h,aq[c]?=some h→ -1≤h∧h<gs.length∧∀(g:Nat) x,gs[g]?=some x→(aL x ((c:Int)+1)↔h=g)
def tc(gs:List bI)(ax:List (Int×Bool)):Prop:=∀(g:Nat) x s t,gs[g]?=some x→ax[g]?=some (s,t)→0≤s∧s≤2∧(t=true→aW x∧x.ae≠14∧0≤x.aN∧s=0)∧(s=1→x.ae=14∨x.ae=19)∧(x.ae=19→s=1)∧(x.ae=14→s=0→0≤x.aN)∧(s=2→x.ae=0∧x.at_=x.ops.length)
def pD(gs:List bI)(ax:List (Int×Bool)):Prop:=∀(g:Nat) x z,gs[g]?=some x→z∈x.wakes→∃(j:Nat) (y:bI) (s:Int),z=j∧gs[j]?=some y∧aW y∧0≤y.aN∧ax[j]?=some (s,false)∧(y.ae=14→s=1)
structure Inv(w:Wd)(ls:List (List Nat)):Prop where
 n8:w.gs.length≤8
 ax:w.ax.length=w.gs.length
 c8:w.au.length≤8
 aO:w.aO.length=w.au.length
 aq:w.aq.length=w.au.length
 au:∀r∈w.au,r.Ok
 JZ:w.ah.length≤64
 aS:w.aw.aS.length=w.ah.length
 bM:ls.length=16
 ar:rQ w.ar w.ah.length w.gs.length
 q:xQ w.aw ls
 loc:∀(g:Nat) x,w.gs[g]?=some x→Loc w.au.length x
 lock:lG w.aq w.gs
 cK:∀(s:Nat) sd,w.ah[s]?=some sd→sd.cK=true→w.ar.cK s=true
 bY:∀(g:Nat) x (s:Nat),w.gs[g]?=some x→x.bY=((s:Nat):Int)→∃sd,w.ah[s]?=some sd∧sd.cK=true∧sd.g=g∧eP x s sd
 bA:∀(g:Nat) x (i s:Nat),w.gs[g]?=some x→x.bA[i]?=some ((s:Nat):Int)→∃sd,w.ah[s]?=some sd∧sd.cK=true∧sd.g=g∧sd.case=(i:Nat)∧eP x s sd
 EJ:∀(k:Nat) l s,ls[k]?=some l→s∈l→∃(sd:gn) (g:Nat) (x:bI),w.ah[s]?=some sd∧sd.cK=true∧sd.g=((g:Nat):Int)∧w.gs[g]?=some x∧eP x s sd∧eV x sd∧(k:Int)=Lh sd
 look:∀(g:Nat) x,w.gs[g]?=some x→bm x→∃(s k:Nat) (l:List Nat) (sd:gn),x.br=s∧ls[k]?=some l∧s∈l∧w.ah[s]?=some sd∧0≤sd.case∧aL x sd.ch
 claim:∀(g:Nat) x,w.gs[g]?=some x→aT x→∃(s z:Nat) (sd:gn) (y:bI),x.br=s∧w.ah[s]?=some sd∧sd.cK=true∧sd.g=z∧z≠g∧w.gs[z]?=some y∧eP y s sd∧aW y∧y.aN= -1∧y.fire=sd.case∧
  ((aP y).ai=9→y.bk=true)∧((aP y).ai≠9→∀(k:Nat) l,ls[k]?=some l→s ∉ l)∧aL x sd.ch
 pE:∀(g:Nat) x (g':Nat) x' (s s':Nat) sd sd',w.gs[g]?=some x→aT x→w.gs[g']?=some x'→aT x'→x.br=s→x'.br=s'→w.ah[s]?=some sd→w.ah[s']?=some sd'→sd.g=sd'.g→g=g'
 served:∀(g:Nat) x (s:Nat),w.gs[g]?=some x→x.aN=s→∃sd,w.ah[s]?=some sd∧sd.cK=true∧sd.g=g∧eP x s sd∧x.fire=sd.case
 st:tc w.gs w.ax
 jn:pD w.gs w.ax
 pg:∀(g:Nat) x,w.gs[g]?=some x→x.wakes.Nodup
 rf:∀(g:Nat) x (g':Nat) x' z,w.gs[g]?=some x→w.gs[g']?=some x'→z∈x.wakes→z∈x'.wakes→g=g'
theorem cX{gs:List bI}{g j:Nat}{x x' y:bI}(hx:gs[g]?=some x)(h:(gs.set g x')[j]?=some y):(j=g∧y=x')∨(j≠g∧gs[j]?=some y):=by
 rw[sW]at h;split at h
 ·rename_i e;split at h
  ·cases h;exact .inl ⟨e.symm,rfl⟩
  ·cases h
 ·rename_i e;exact .inr ⟨fun e'=>e e'.symm,h⟩
theorem di{gs:List bI}{g:Nat}{x:bI}(x':bI)(hx:gs[g]?=some x):(gs.set g x')[g]?=some x':=nH (cA hx)
theorem gd{gs:List bI}{g j:Nat}(x':bI)(h:j≠g):(gs.set g x')[j]?=gs[j]?:=oA (dE h)
theorem lG.same{aq:List Int}{gs:List bI}(h:lG aq gs){g:Nat}{x x':bI}(hx:gs[g]?=some x)(he:∀c,aL x' c↔aL x c):lG aq (gs.set g x'):=by
 intro c o ho;obtain⟨h1,h2,h3⟩:=h c o ho;refine⟨h1,by simpa using h2,fun j y hy=>?_⟩;rcases cX hx hy with⟨rfl,rfl⟩|⟨e,hy⟩
 ·rw[he];exact h3 _ _ hx
 ·exact h3 j y hy
theorem lG.acquire{aq:List Int}{gs:List bI}(h:lG aq gs){g c:Nat}{x x':bI}(hx:gs[g]?=some x)(hc:aq[c]?=some (-1))(he:∀d,aL x' d↔aL x d∨d=(c:Int)+1):lG (aq.set c g) (gs.set g x'):=by
 have hg:g<gs.length:=cA hx;intro d o ho;by_cases hd:d=c
 ·subst hd;rw[nH (cA hc)]at ho
  cases ho;refine⟨by omega,by simp;omega,fun j y hy=>?_⟩;rcases cX hx hy with⟨rfl,rfl⟩|⟨e,hy⟩
  ·rw[he];simp
  ·rw[(h d _ hc).2.2 j y hy];omega
 ·rw[oA (dE hd)]at ho;obtain⟨h1,h2,h3⟩:=h d o ho;refine⟨h1,by simpa using h2,fun j y hy=>?_⟩;rcases cX hx hy with⟨rfl,rfl⟩|⟨e,hy⟩
  ·rw[he,h3 _ _ hx];constructor
   ·rintro(h|h)
    ·exact h
    ·omega
   ·exact .inl
  ·exact h3 j y hy
theorem lG.release{aq:List Int}{gs:List bI}(h:lG aq gs){g c:Nat}{x x':bI}(hx:gs[g]?=some x)(hc:aq[c]?=some (g:Int))(he:∀d,aL x' d↔aL x d∧d≠(c:Int)+1):lG (aq.set c (-1)) (gs.set g x'):=by
 have hg:g<gs.length:=cA hx;intro d o ho;by_cases hd:d=c
 ·subst hd;rw[nH (cA hc)]at ho
  cases ho;refine⟨by omega,by simp;omega,fun j y hy=>?_⟩;rcases cX hx hy with⟨rfl,rfl⟩|⟨e,hy⟩
  ·rw[he];simp
  ·rw[(h d _ hc).2.2 j y hy];omega
 ·rw[oA (dE hd)]at ho;obtain⟨h1,h2,h3⟩:=h d o ho;refine⟨h1,by simpa using h2,fun j y hy=>?_⟩;rcases cX hx hy with⟨rfl,rfl⟩|⟨e,hy⟩
  ·rw[he,h3 _ _ hx];constructor
   ·exact fun h=>h.1
   ·exact fun h=>⟨h,by omega⟩
  ·exact h3 j y hy
theorem lG.one{aq:List Int}{gs:List bI}(h:lG aq gs){g g':Nat}{x x':bI}{c:Int}(hx:gs[g]?=some x)(th:gs[g']?=some x')(h1:aL x c)(h2:aL x' c)(hc:1≤c∧c≤aq.length):g=g':=by
 obtain⟨o,ho⟩:∃o,aq[(c-1).toNat]?=some o:=⟨_,fv (by omega)⟩;have e:(((c-1).toNat:Int)+1)=c:=by omega
 obtain⟨_,_,h3⟩:=h _ _ ho;have a:=(h3 g x hx).1 (by rw[e];exact h1);have b:=(h3 g' x' th).1 (by rw[e];exact h2);omega
section
variable{w w':Wd}{ls:List (List Nat)}
def Li(w:Wd)(g z:Nat):Prop:=∀(j:Nat) u (s:Nat) sd,w.gs[j]?=some u→j≠g→aT u→u.br=s→w.ah[s]?=some sd→sd.g≠z
theorem Inv.mn(I:Inv w ls){g:Nat}{x x':bI}(hx:w.gs[g]?=some x)(hL:Loc w.au.length x')(own:∀(k:Nat) l s sd,ls[k]?=some l→s∈l→w.ah[s]?=some sd→sd.g=g→eP x s sd→eV x sd→eP x' s sd∧eV x' sd)(bY:∀s:Nat,x'.bY=s→∃sd,w.ah[s]?=some sd∧sd.cK=true∧sd.g=g∧eP x' s sd)(bA:∀i s:Nat,x'.bA[i]?=some (s:Int)→∃sd,w.ah[s]?=some sd∧sd.cK=true∧sd.g=g∧sd.case=i∧eP x' s sd)(gm:∀(j:Nat) u (s:Nat) sd,w.gs[j]?=some u→j≠g→aT u→u.br=s→w.ah[s]?=some sd→sd.g=g→eP x s sd→aW x→x.aN= -1→x.fire=sd.case→((aP x).ai=9→x.bk=true)→eP x' s sd∧aW x'∧x'.aN= -1∧x'.fire=sd.case∧((aP x').ai=9→x'.bk=true)∧((aP x').ai≠9→(aP x).ai≠9))(Hu:aT x'→∃(s z:Nat) (sd:gn) (y:bI),x'.br=s∧w.ah[s]?=some sd∧sd.cK=true∧sd.g=z∧z≠g∧w.gs[z]?=some y∧eP y s sd∧aW y∧y.aN= -1∧y.fire=sd.case∧((aP y).ai=9→y.bk=true)∧((aP y).ai≠9→∀(k:Nat) l,ls[k]?=some l→s ∉ l)∧aL x' sd.ch∧Li w g z)(YI:bm x'→∃(s k:Nat) (l:List Nat) (sd:gn),x'.br=s∧ls[k]?=some l∧s∈l∧w.ah[s]?=some sd∧0≤sd.case∧aL x' sd.ch)(par:∀s:Nat,x'.aN=s→∃sd,w.ah[s]?=some sd∧sd.cK=true∧sd.g=g∧eP x' s sd∧x'.fire=sd.case)(wk1:x'.wakes.Nodup)(wk2:∀(j:Nat) u z,w.gs[j]?=some u→j≠g→z∈u.wakes→z ∉ x'.wakes)(e1:w'.gs=w.gs.set g x')(e2:w'.ax.length=w.ax.length)(e3:w'.au.length=w.au.length)(e4:∀r∈w'.au,r.Ok)(e5:w'.aO.length=w.aO.length)(e6:w'.aq.length=w.aq.length)(e7:lG w'.aq w'.gs)(e8:w'.ah=w.ah)(e9:w'.aw=w.aw)(Lj:w'.ar=w.ar)(jf:tc w'.gs w'.ax)(J0:pD w'.gs w'.ax):Inv w' ls:=by
 have hg:g<w.gs.length:=cA hx;have cP:w'.gs.length=w.gs.length:=by rw[e1];simp
 refine⟨by rw[cP];exact I.n8,by rw[e2,cP];exact I.ax,by rw[e3];exact I.c8,by rw[e5,e3];exact I.aO,by rw[e6,e3];exact I.aq,e4,by rw[e8];exact I.JZ,by rw[e9,e8];exact I.aS,I.bM,by rw[Lj,e8,cP];exact I.ar,by rw[e9];exact I.q,?_,e7,by rw[e8,Lj];exact I.cK,?_,?_,?_,?_,?_,?_,?_,jf,J0,?_,?_⟩
 ·intro j y hy;rw[e1]at hy;rw[e3];rcases cX hx hy with⟨rfl,rfl⟩|⟨cM,hy⟩
  ·exact hL
  ·exact I.loc j y hy
 ·intro j y s hy hm;rw[e1]at hy;rw[e8];rcases cX hx hy with⟨rfl,rfl⟩|⟨cM,hy⟩
  ·exact bY s hm
  ·exact I.bY j y s hy hm
 ·intro j y i s hy hm;rw[e1]at hy;rw[e8];rcases cX hx hy with⟨rfl,rfl⟩|⟨cM,hy⟩
  ·exact bA i s hm
  ·exact I.bA j y i s hy hm
 ·intro k l s hl hm;obtain⟨sd,j,y,h1,h2,h3,h4,h5,h6,h7⟩:=I.EJ k l s hl hm;rw[e1,e8];by_cases hj:j=g
  ·subst hj;rw[hx]at h4;cases h4;obtain⟨a,b⟩:=own k l s sd hl hm h1 h3 h5 h6;exact⟨sd,j,x',h1,h2,h3,di _ hx,a,b,h7⟩
  ·exact⟨sd,j,y,h1,h2,h3,by rw[gd _ hj];exact h4,h5,h6,h7⟩
 ·intro j y hy ja;rw[e1]at hy;rw[e8];rcases cX hx hy with⟨rfl,rfl⟩|⟨cM,hy⟩
  ·exact YI ja
  ·exact I.look j y hy ja
 ·intro j y hy hc;rw[e1]at hy;rw[e1,e8];rcases cX hx hy with⟨rfl,rfl⟩|⟨cM,hy⟩
  ·obtain⟨s,z,sd,u,h1,h2,h3,h4,h5,h6,h7,h8,h9,ph,rA,uQ,uu,_⟩:=Hu hc;exact⟨s,z,sd,u,h1,h2,h3,h4,h5,by rw[gd _ h5];exact h6,h7,h8,h9,ph,rA,uQ,uu⟩
  ·have rN:=hy;obtain⟨s,z,sd,u,h1,h2,h3,h4,h5,h6,h7,h8,h9,ph,rA,uQ,uu⟩:=I.claim j y hy hc;by_cases hz:z=g
   ·subst hz;rw[hx]at h6;cases h6;obtain⟨a,b,c,d,e,f⟩:=gm j y s sd rN cM hc h1 h2 h4 h7 h8 h9 ph rA;exact⟨s,z,sd,x',h1,h2,h3,h4,h5,di _ hx,a,b,c,d,e,fun h=>uQ (f h),uu⟩
   ·exact⟨s,z,sd,u,h1,h2,h3,h4,h5,by rw[gd _ hz];exact h6,h7,h8,h9,ph,rA,uQ,uu⟩
 ·intro j y j' y' s s' sd sd' hy hc uO Ek hh Xv rh vz G4;rw[e1]at hy uO;rw[e8]at rh vz;rcases cX hx hy with⟨h1,h2⟩|⟨cM,rN⟩<;>rcases cX hx uO with⟨h3,h4⟩|⟨Lk,YJ⟩
  ·rw[h1,h3]
  ·subst h2;obtain⟨s0,z,Nf,u,a1,a2,a3,a4,a5,a6,a7,a8,a9,a10,a11,a12,a13,YK⟩:=Hu hc;obtain rfl:s0=s:=by omega
   rw[rh]at a2;cases a2;exact aX (G4.symm.trans a4) (YK j' y' s' sd' YJ Lk Ek Xv vz)
  ·subst h4;obtain⟨s0,z,Nf,u,a1,a2,a3,a4,a5,a6,a7,a8,a9,a10,a11,a12,a13,YK⟩:=Hu Ek;obtain rfl:s0=s':=by omega
   rw[vz]at a2;cases a2;exact aX (G4.trans a4) (YK j y s sd rN cM hc hh rh)
  ·exact I.pE j y j' y' s s' sd sd' rN hc YJ Ek hh Xv rh vz G4
 ·intro j y s hy hp;rw[e1]at hy;rw[e8];rcases cX hx hy with⟨rfl,rfl⟩|⟨cM,hy⟩
  ·exact par s hp
  ·exact I.served j y s hy hp
 ·intro j y hy;rw[e1]at hy;rcases cX hx hy with⟨rfl,rfl⟩|⟨cM,hy⟩
  ·exact wk1
  ·exact I.pg j y hy
 ·intro j y j' y' z hy uO hz xq;rw[e1]at hy uO;rcases cX hx hy with⟨h1,h2⟩|⟨cM,hy⟩<;>rcases cX hx uO with⟨h3,h4⟩|⟨Lk,uO⟩
  ·rw[h1,h3]
  ·rw[h2]at hz;exact aX hz (wk2 j' y' z uO Lk xq)
  ·rw[h4]at xq;exact aX xq (wk2 j y z hy cM hz)
  ·exact I.rf j y j' y' z hy uO hz xq
structure lH(x x':bI):Prop where
 aP:aP x'=aP x
 wt:aW x'↔aW x
 cl:¬aT x'
 lo:¬bm x'
 bY:x'.bY=x.bY
 bA:x'.bA=x.bA
 wakes:x'.wakes=x.wakes
 aN:x'.aN=x.aN
 seen:aW x→x'.fire=x.fire∧x'.bk=x.bk
 q:∀sd,eV x sd→eV x' sd
theorem lH.owns{x x':bI}(h:lH x x'){s:Nat}{sd:gn}:eP x' s sd↔eP x s sd:=by unfold eP;rw[h.aP,h.bY,h.bA]
theorem tc.same{gs:List bI}{b:List (Int×Bool)}(h:tc gs b){g:Nat}{x x':bI}(hx:gs[g]?=some x)(hs:∃t,b[g]?=some (0,t))(hw:aW x→aW x')(hp:x'.aN=x.aN)(Ng:x'.ae=14→x.ae=14)(J1:x'.ae≠19):tc (gs.set g x') b:=by
 obtain⟨t0,oH⟩:=hs;intro j y s t hy hb;rcases cX hx hy with⟨rfl,rfl⟩|⟨cM,hy⟩
 ·rw[oH]at hb;cases hb;obtain⟨h1,h2,h3,h4,h5,h6,h7⟩:=h _ x 0 t0 hx oH;refine⟨h1,h2,fun ht=>?_,fun h=>by omega,fun h=>aX h J1,fun h _=>?_,fun h=>by omega⟩
  ·obtain⟨a,b,c,d⟩:=h3 ht;exact⟨hw a,fun h=>b (Ng h),by rw[hp];exact c,d⟩
  ·rw[hp];exact h6 (Ng h) rfl
 ·exact h j y s t hy hb
theorem pD.same{gs:List bI}{b:List (Int×Bool)}(h:pD gs b){g:Nat}{x x':bI}(hx:gs[g]?=some x)(hw:aW x→aW x')(hp:x'.aN=x.aN)(hk:x'.wakes=x.wakes)(Ng:x'.ae=14→x.ae=14):pD (gs.set g x') b:=by
 intro j y z hy hz
 have key:∀(i:Nat) (u:bI) (s:Int),gs[i]?=some u→aW u→0≤u.aN→b[i]?=some (s,false)→(u.ae=14→s=1)→∃u',(gs.set g x')[i]?=some u'∧aW u'∧0≤u'.aN∧b[i]?=some (s,false)∧(u'.ae=14→s=1):=by
  intro i u s h1 h2 h3 h4 h5;by_cases hi:i=g
  ·subst hi;rw[hx]at h1;cases h1;exact⟨x',di _ hx,hw h2,by rw[hp];exact h3,h4,fun h=>h5 (Ng h)⟩
  ·exact⟨u,by rw[gd _ hi];exact h1,h2,h3,h4,h5⟩
 have xq:∃(j0:Nat) (y0:bI),gs[j0]?=some y0∧z∈y0.wakes:=by
  rcases cX hx hy with⟨h1,h2⟩|⟨cM,hy⟩
  ·exact⟨g,x,hx,by rw[←hk,←h2];exact hz⟩
  ·exact⟨j,y,hy,hz⟩
 obtain⟨j0,y0,J2,fV⟩:=xq;obtain⟨i,u,s,h0,h1,h2,h3,h4,h5⟩:=h j0 y0 z J2 fV;obtain⟨u',a⟩:=key i u s h1 h2 h3 h4 h5;exact⟨i,u',s,h0,a⟩
theorem Inv.iQ(I:Inv w ls){g:Nat}{x x':bI}(hx:w.gs[g]?=some x)(h1:aP x'=aP x)(h2:x'.bY=x.bY)(h3:x'.bA=x.bA):(∀s:Nat,x'.bY=s→∃sd,w.ah[s]?=some sd∧sd.cK=true∧sd.g=g∧eP x' s sd)∧(∀i s:Nat,x'.bA[i]?=some (s:Int)→∃sd,w.ah[s]?=some sd∧sd.cK=true∧sd.g=g∧sd.case=i∧eP x' s sd)∧∀s sd,eP x' s sd↔eP x s sd:=by
 have ho:∀s sd,eP x' s sd↔eP x s sd:=fun s sd=>by unfold eP;rw[h1,h2,h3]
 refine⟨fun s h=>?_,fun i s h=>?_,ho⟩
 ·obtain⟨sd,a,b,c,d⟩:=I.bY g x s hx (by rw[←h2];exact h);exact⟨sd,a,b,c,(ho _ _).2 d⟩
 ·obtain⟨sd,a,b,c,e,d⟩:=I.bA g x i s hx (by rw[←h3];exact h);exact⟨sd,a,b,c,e,(ho _ _).2 d⟩
theorem Inv.qB(I:Inv w ls){g:Nat}{x x':bI}(hx:w.gs[g]?=some x)(ho:∀s sd,eP x' s sd↔eP x s sd)(h1:x'.aN=x.aN)(h2:aW x→x'.fire=x.fire):∀s:Nat,x'.aN=s→∃sd,w.ah[s]?=some sd∧sd.cK=true∧sd.g=g∧eP x' s sd∧x'.fire=sd.case:=by
 intro s h;have hp:x.aN=s:=by rw[←h1];exact h
 have hw:aW x:=Classical.byContradiction fun hn=>by have:=(I.loc _ x hx).aN.2 hn;omega
 obtain⟨sd,a,b,c,d,e⟩:=I.served g x s hx hp;exact⟨sd,a,b,c,(ho _ _).2 d,by rw[h2 hw];exact e⟩
theorem Inv.jU(I:Inv w ls){g:Nat}{x x':bI}(hx:w.gs[g]?=some x)(h:x'.wakes.Sublist x.wakes):x'.wakes.Nodup∧∀(j:Nat) u z,w.gs[j]?=some u→j≠g→z∈u.wakes→z ∉ x'.wakes:=
 ⟨h.nodup (I.pg g x hx),fun j u z hj cM hz xq=>cM (I.rf j u g x z hj hx hz (h.subset xq))⟩
theorem Inv.frame(I:Inv w ls){g:Nat}{x x':bI}(hx:w.gs[g]?=some x)(hs:∃t,w.ax[g]?=some (0,t))(M:lH x x')(Ng:x'.ae=14→x.ae=14)(J1:x'.ae≠19)(hL:Loc w.au.length x')(e1:w'.gs=w.gs.set g x')(e2:w'.ax=w.ax)(e3:w'.au.length=w.au.length)(e4:∀r∈w'.au,r.Ok)(e5:w'.aO.length=w.aO.length)(e6:w'.aq.length=w.aq.length)(e7:lG w'.aq w'.gs)(e8:w'.ah=w.ah)(e9:w'.aw=w.aw)(Lj:w'.ar=w.ar):Inv w' ls:=
 have K:=I.iQ hx M.aP M.bY M.bA
 have W:=I.jU (x':=x') hx (by rw[M.wakes];exact List.Sublist.refl _)
 I.mn hx hL (fun k l s sd _ _ _ _ a b=>⟨(K.2.2 _ _).2 a,M.q _ b⟩) K.1 K.2.1 (fun j u s sd _ _ _ _ _ _ a b c d e=>⟨(K.2.2 _ _).2 a,M.wt.2 b,M.aN.trans c,by rw[(M.seen b).1];exact d,by rw[M.aP,(M.seen b).2];exact e,by rw[M.aP];exact id⟩)
  (fun h=>aX h M.cl) (fun h=>aX h M.lo) (I.qB hx K.2.2 M.aN fun h=>(M.seen h).1) W.1 W.2 e1 (by rw[e2]) e3 e4 e5 e6 e7 e8 e9 Lj (by rw[e1,e2];exact I.st.same hx hs M.wt.2 M.aN Ng J1) (by rw[e1,e2];exact I.jn.same hx M.wt.2 M.aN M.wakes Ng)
end
end Go.Proofs.YtadifmnmfnihdaaGreat.V
namespace Go.Proofs.YtadifmnmfnihdaaGreat
open Go.RowKit Go.Maps Go.ChangeMaps Go.Proofs.Tryz
def tJ(w:World)(ao:Option Addr)(cs:List Nat):Prop:=
 cs.length≤9223372036854775807∧∀j,j<cs.length→∃b off z0 z1 z2 z3 x cx b5,ao=some ⟨b,off,none⟩∧
  w.cell? ⟨b,off+j*6,none⟩=some (.int .i64 z0)∧w.cell? ⟨b,off+j*6+1,none⟩=some (.int .i64 z1)∧w.cell? ⟨b,off+j*6+2,none⟩=some (.int .i64 z2)∧w.cell? ⟨b,off+j*6+3,none⟩=some (.int .i64 z3)∧
  w.cell? ⟨b,off+j*6+4,none⟩=some (.slice x (cs.getD j 0) cx)∧w.cell? ⟨b,off+j*6+5,none⟩=some (.bool b5)∧cs.getD j 0≤9223372036854775807
def nZ(w:World)(ao:Option Addr)(pl:List (List Nat)):Prop:=
 pl.length≤9223372036854775807∧∀i,i<pl.length→∃b off r c,ao=some ⟨b,off,none⟩∧w.cell? ⟨b,off+i,none⟩=some (.slice r (pl.getD i []).length c)∧tJ w r (pl.getD i [])
theorem tJ.fU{w w':World}{ao:Option Addr}{cs:List Nat}(h:tJ w ao cs)(hc:∀a v,w.cell? a=some v→w'.cell? a=some v):tJ w' ao cs:=
 ⟨h.1,fun j hj=>by obtain⟨b,off,z0,z1,z2,z3,x,cx,b5,e,h0,h1,h2,h3,h4,h5,hl⟩:=h.2 j hj;exact⟨b,off,z0,z1,z2,z3,x,cx,b5,e,hc _ _ h0,hc _ _ h1,hc _ _ h2,hc _ _ h3,hc _ _ h4,hc _ _ h5,hl⟩⟩
theorem nZ.fU{w w':World}{ao:Option Addr}{pl:List (List Nat)}(h:nZ w ao pl)(hc:∀a v,w.cell? a=some v→w'.cell? a=some v):nZ w' ao pl:=
 ⟨h.1,fun i hi=>by obtain⟨b,off,r,c,e,h1,h2⟩:=h.2 i hi;exact⟨b,off,r,c,e,hc _ _ h1,h2.fU hc⟩⟩
theorem tJ.below{w w':World}{B:Nat}{ao:Option Addr}{cs:List Nat}(h:tJ w ao cs)(hb:Below B w w')(hB:w.heap.size≤B):tJ w' ao cs:=by
 refine h.fU fun a v hv=>?_
 rw[hb.cell (by have:=xo w a hv;omega)];exact hv
theorem nZ.below{w w':World}{B:Nat}{ao:Option Addr}{pl:List (List Nat)}(h:nZ w ao pl)(hb:Below B w w')(hB:w.heap.size≤B):nZ w' ao pl:=by
 refine h.fU fun a v hv=>?_
 rw[hb.cell (by have:=xo w a hv;omega)];exact hv
def rR:List Nat→Nat
 | []=>0
 |c::cs=>24+16*c+rR cs
def CI:List (List Nat)→Nat
 | []=>0
 |r::rs=>rR r+CI rs
def Small(pl:List (List Nat)):Prop:=pl.length≤100∧∀i,i<pl.length→(pl.getD i []).length≤100∧∀j,j<(pl.getD i []).length→(pl.getD i []).getD j 0≤100
theorem BF:∀(cs:List Nat) (j:Nat),j<cs.length→rR (cs.take (j+1))=rR (cs.take j)+(24+16*cs.getD j 0)
 | [],j,h=>aX h (by simp)
 |c::cs,0,_=>by simp[rR]
 |c::cs,j+1,h=>by have:=BF cs j (by simpa using h);simp only[sS,rR,this,List.getD_cons_succ];omega
theorem EK:∀(pl:List (List Nat)) (i:Nat),i<pl.length→CI (pl.take (i+1))=CI (pl.take i)+rR (pl.getD i [])
 | [],i,h=>aX h (by simp)
 |r::rs,0,_=>by simp[CI]
 |r::rs,i+1,h=>by have:=EK rs i (by simpa using h);simp only[sS,CI,this,List.getD_cons_succ];omega
theorem Sl(pl:List (List Nat)):CI (pl.take pl.length)=CI pl:=by rw[List.take_length]
theorem NX(r:List Nat):rR (r.take r.length)=rR r:=by rw[List.take_length]
theorem Ll(pl:List (List Nat))(n:Nat)(hn:n=pl.length)(a:Option Addr)(ca:Nat)(w:World)(h1:nZ w a pl)(G2:Small pl):Calls prog 32 #[.slice a n ca] w fun e w'=>e=.returned (.int .i64 ((n+CI pl:Nat):Int))∧Below w.heap.size w w':=by
 have El:n≤100:=by rw[hn];exact G2.1
 have Hn:=ag hn;clear hn;have H1:=ag h1;clear h1;have HS:=ag G2;clear G2;go_enter func32,ntmps32;go_wp2;go_loopw [3,5,7,12] (fun v _ _ i wr=>∃j s:Nat,j≤n∧i=.int .i64 j∧v=.int .i64 s∧s≤100+162400*j∧Hid (s=n+CI (pl.take j))∧Hid (Below w.heap.size w wr)) (fun _ _ _ i _=>n-(intOf i).toNat)
 case atStart=>exact⟨0,n,Nat.zero_le _,rfl,rfl,by omega,(by simp[CI]:n=n+CI (pl.take 0)),fp _ _⟩
 case round=>
  obtain⟨j,s,hj,rfl,rfl,mB,HK,HB⟩:=hrel;by_cases dD:j<n
  ·obtain⟨b1,o1,r1,c1,rfl,oF,rS⟩:=(H1.out.below HB.out cG).2 j (by rw[←Hn.out];exact dD);have VA:=HS.out.2 j (by rw[←Hn.out];exact dD);have Em:=EK pl j (by rw[←Hn.out];exact dD);obtain⟨cs,fa⟩:=dC (pl.getD j []);rw[←fa]at oF rS VA Em;obtain⟨m,hm⟩:=dC (cs.length);rw[←hm]at oF VA;have YL:m≤100:=VA.1;obtain⟨HO,HSJ,Xw,HM⟩:=ia rS VA.2 Em hm;obtain⟨wo,VB⟩:=dC (wr);subst VB;clear rS VA Em hm fa;go_wp2;go_loopw [3,7,18] (fun v _ i VC=>∃k t:Nat,k≤m∧i=.int .i64 k∧v=.int .i64 t∧t≤s+1624*k∧Hid (t=s+rR (cs.take k))∧Hid (Below wo.heap.size wo VC)) (fun _ _ i _=>m-(intOf i).toNat)
   case atStart=>exact⟨0,s,Nat.zero_le _,rfl,rfl,by omega,(by simp[rR]:s=s+rR (cs.take 0)),fp _ _⟩
   case round=>
    obtain⟨k,t,hk,rfl,rfl,YM,HT,mq⟩:=hrel;by_cases rT:k<m
    ·obtain⟨b2,o2,z0,z1,z2,z3,x,cx,b5,rfl,e0,e1,e2,e3,e4,e5,hx⟩:=(HO.out.below mq.out cG).2 k (by rw[←HM.out];exact rT);have BG:=HSJ.out k rT;have NY:=BF cs k (by rw[←HM.out];exact rT);obtain⟨q,hq⟩:=dC (cs.getD k 0);rw[←hq]at e4 BG NY hx;have Xx:Hid (t+(24+16*q)=s+rR (cs.take (k+1))):=(by show _=_;rw[NY,HT.out];omega);clear NY hq;have vz:=mq.out.size;have tK:Hid (Below wo.heap.size wo (wr.alloc (.cells #[.int .i64 z0,.int .i64 z1,.int .i64 z2,.int .i64 z3,.slice x q cx,.bool b5] 49))):=mq.out.alloc vz _;go_wp2;go_roundw
     case rel=>exact⟨k+1,t+(24+16*q),by omega,by go_num,by go_num,by omega,Xx,tK⟩
     case measure=>simp[intOf];omega
    ·obtain rfl:k=m:=by omega
     have HK':Hid (t=n+CI (pl.take (j+1))):=(by show _=_;rw[Xw.out,HT.out,HK.out,show k=cs.length from HM.out,NX];omega);have rh:=HB.out.size;have tK:Hid (Below w.heap.size w wr):=HB.out.trans (mq.out.mono rh);go_wp2;go_roundw
     case rel=>exact⟨j+1,t,by omega,by go_num,rfl,by omega,HK',tK⟩
     case measure=>simp[intOf];omega
  ·obtain rfl:j=n:=by omega
   have hK2:s=j+CI pl:=(by rw[HK.out,show j=pl.length from Hn.out,Sl]);have VD:=ag hK2;clear hK2;go_wp2;go_ret;refine⟨?_,HB.out⟩;rw[VD.out];rfl
def Lm(r:List Nat):Prop:=16<r.length∨∃j,j<r.length∧6<r.getD j 0
def Ln(pl:List (List Nat))(k:Int):Prop:=k<1∨1048576<k∨8<pl.length∨∃i,i<pl.length∧Lm (pl.getD i [])
def J3(pl:List (List Nat))(k b:Int):Prop:=(Ln pl k→b=0)∧(¬Ln pl k→b=k*(((pl.length+CI pl:Nat):Int)+1))
theorem nr{pl:List (List Nat)}{k:Int}(h:Ln pl k):J3 pl k 0:=⟨fun _=>rfl,fun h'=>aX h h'⟩
theorem VE{k:Int}{S:Nat}(h1:1≤k)(h2:k≤1048576)(hS:S≤16240200):0≤k*(S:Int)∧k*(S:Int)≤1048576*16240200:=
 ⟨Int.mul_nonneg (by omega) (by omega),Int.mul_le_mul h2 (by omega) (by omega) (by omega)⟩
theorem J4:∀(r:List Nat),(∀j,j<r.length→r.getD j 0≤100)→rR r≤1624*r.length
 | [],_=>by simp[rR]
 |c::r,h=>by
  have h0:=h 0 (by simp);have:=J4 r fun j hj=>h (j+1) (by simpa using hj)
  simp only[List.getD_cons_zero]at h0;simp only[rR,sV];omega
theorem NZ:∀(pl:List (List Nat)),(∀i,i<pl.length→rR (pl.getD i [])≤162400)→CI pl≤162400*pl.length
 | [],_=>by simp[CI]
 |r::pl,h=>by
  have h0:=h 0 (by simp);have:=NZ pl fun j hj=>h (j+1) (by simpa using hj)
  simp only[List.getD_cons_zero]at h0;simp only[CI,sV];omega
theorem N0{pl:List (List Nat)}(h:Small pl):pl.length+CI pl≤16240100:=by
 have:=NZ pl fun i hi=>by have h1:=J4 _ (h.2 i hi).2;have h2:=(h.2 i hi).1;omega
 have:=h.1;omega
theorem Hv(pl:List (List Nat))(n:Nat)(hn:n=pl.length)(a:Option Addr)(ca:Nat)(k:Int)(w:World)(h1:nZ w a pl)(G2:Small pl):Calls prog 12 #[.slice a n ca,.int .i64 k] w fun e w'=>(∃b,e=.returned (.int .i64 b)∧J3 pl k b)∧Below w.heap.size w w':=by
 have El:n≤100:=by rw[hn];exact G2.1
 have Hn:=ag hn;clear hn;have H1:=ag h1;clear h1;have HS:=ag G2;clear G2;go_enter func12,ntmps12;by_cases jg:k<1
 ·go_wp2;go_ret;exact⟨⟨_,rfl,nr (.inl jg)⟩,fp _ _⟩
 by_cases jO:1048576<k
 ·go_wp2;go_ret;exact⟨⟨_,rfl,nr (.inr (.inl jO))⟩,fp _ _⟩
 by_cases hn8:8<n
 ·go_wp2;go_ret;exact⟨⟨_,rfl,nr (.inr (.inr (.inl (by rw[←Hn.out];exact hn8))))⟩,fp _ _⟩
 go_wp2;go_loopw [6,8,22] (fun _ _ i wr=>∃j:Nat,j≤n∧i=.int .i64 j∧Hid (∀i,i<j→¬Lm (pl.getD i []))∧Hid (Below w.heap.size w wr)) (fun _ _ i _=>n-(intOf i).toNat)
 case atStart=>exact⟨0,Nat.zero_le _,rfl,fun i hi=>aX hi (by omega),fp _ _⟩
 case round=>
  obtain⟨j,hj,rfl,HK,HB⟩:=hrel;by_cases dD:j<n
  ·obtain⟨b1,o1,r1,c1,rfl,oF,rS⟩:=(H1.out.below HB.out cG).2 j (by rw[←Hn.out];exact dD);have Lo:∀h:Lm (pl.getD j []),Ln pl k:=fun h=> .inr (.inr (.inr ⟨j,by rw[←Hn.out];exact dD,h⟩))
   have Em:∀h:¬Lm (pl.getD j []),∀i,i<j+1→¬Lm (pl.getD i []):=fun h i hi=>by
    rcases Nat.lt_or_ge i j with h1|h1
    ·exact HK.out i h1
    ·obtain rfl:i=j:=by omega
     exact h
   obtain⟨cs,fa⟩:=dC (pl.getD j []);rw[←fa]at oF rS Em Lo;obtain⟨m,hm⟩:=dC (cs.length);rw[←hm]at oF;obtain⟨HO,Xw,HM,YN⟩:=ia rS Em hm Lo;obtain⟨wo,VB⟩:=dC (wr);subst VB;have hmx:m≤9223372036854775807:=(by rw[HM.out];exact HO.out.1);clear rS Em hm fa Lo;by_cases VF:16<m
   ·go_wp2;go_ret;exact⟨⟨_,rfl,nr (YN.out (.inl (by rw[←HM.out];exact VF)))⟩,HB.out⟩
   go_wp2;go_loopw [8,31] (fun _ i VC=>∃q:Nat,q≤m∧i=.int .i64 q∧Hid (∀j,j<q→¬6<cs.getD j 0)∧Hid (Below wo.heap.size wo VC)) (fun _ i _=>m-(intOf i).toNat)
   case atStart=>exact⟨0,Nat.zero_le _,rfl,fun i hi=>aX hi (by omega),fp _ _⟩
   case round=>
    obtain⟨q,hq,rfl,HT,mq⟩:=hrel;have rh:=HB.out.size;have vz:=mq.out.size;by_cases rT:q<m
    ·obtain⟨b2,o2,z0,z1,z2,z3,x,cx,b5,rfl,e0,e1,e2,e3,e4,e5,hx⟩:=(HO.out.below mq.out cG).2 q (by rw[←HM.out];exact rT);have yD:6<cs.getD q 0→Lm cs:=fun h=> .inr ⟨q,by rw[←HM.out];exact rT,h⟩
     have hg6:¬6<cs.getD q 0→∀j,j<q+1→¬6<cs.getD j 0:=fun h i hi=>by
      rcases Nat.lt_or_ge i q with h1|h1
      ·exact HT.out i h1
      ·obtain rfl:i=q:=by omega
       exact h
     obtain⟨t,ht⟩:=dC (cs.getD q 0);rw[←ht]at e4 hx yD hg6;obtain⟨HB6,HG6⟩:=dA yD hg6;have tK:Hid (Below wo.heap.size wo (wr.alloc (.cells #[.int .i64 z0,.int .i64 z1,.int .i64 z2,.int .i64 z3,.slice x t cx,.bool b5] 49))):=mq.out.alloc vz _;have HB4:Hid (Below w.heap.size w (wr.alloc (.cells #[.int .i64 z0,.int .i64 z1,.int .i64 z2,.int .i64 z3,.slice x t cx,.bool b5] 49))):=HB.out.trans (tK.out.mono rh);clear ht yD hg6;by_cases ht6:6<t
     ·go_wp2;go_ret;exact⟨⟨_,rfl,nr (YN.out (HB6.out ht6))⟩,HB4.out⟩
     ·go_wp2;go_roundw
      case rel=>exact⟨q+1,by omega,by go_num,HG6.out ht6,tK⟩
      case measure=>simp[intOf];omega
    ·obtain rfl:q=m:=by omega
     have HK':=ag (Xw.out fun h=>by
      rcases h with h|⟨i,h1,h2⟩
      ·exact VF (by rw[HM.out];exact h)
      ·exact HT.out i (by rw[HM.out];exact h1) h2)
     have tK:Hid (Below w.heap.size w wr):=HB.out.trans (mq.out.mono rh);go_wp2;go_roundw
     case rel=>exact⟨j+1,by omega,by go_num,HK',tK⟩
     case measure=>simp[intOf];omega
  ·obtain rfl:j=n:=by omega
   have Uz:¬Ln pl k:=fun h=>by
    rcases h with h|h|h|⟨i,h1,h2⟩
    ·omega
    ·omega
    ·exact hn8 (by rw[Hn.out];exact h)
    ·exact HK.out i (by rw[Hn.out];exact h1) h2
   have HG:=ag Uz;clear Uz;obtain⟨S,hS⟩:=dC (j+CI pl);have hSl:S≤16240100:=(by rw[hS,Hn.out];exact N0 HS.out);have hw:=Ll pl j Hn.out a ca wr (H1.out.below HB.out cG) HS.out;rw[←hS]at hw;rw[Hn.out]at hS;have Ao:=ag hS;have HW:=ag hw;have rh:=HB.out.size;have hmul:=VE (k:=k) (S:=S+1) (by omega) (by omega) (by omega);have ai4:=ag hmul;clear hS hw hmul;go_wp2_with fail
   refine HW.out.mono ?_;rintro e w2 ⟨rfl,hb⟩;have mq:Hid (Below w.heap.size w w2):=HB.out.trans (hb.mono rh);clear hb;go_wp2;go_ret;refine⟨⟨_,rfl,fun h=>aX h HG.out,fun _=>?_⟩,mq.out⟩;rw[←Ao.out];have h1:=ai4.out;rw[show(((S+1:Nat)):Int)=(S:Int)+1 from rfl]at h1;generalize k*((S:Int)+1)=z at h1 ⊢;unfold wrap64;omega
end Go.Proofs.YtadifmnmfnihdaaGreat
