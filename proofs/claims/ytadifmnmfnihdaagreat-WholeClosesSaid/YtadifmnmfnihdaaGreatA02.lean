import Derived.Test.YtadifmnmfnihdaaGreatA01
set_option linter.all false
set_option maxRecDepth 100000
set_option maxHeartbeats 40000000
namespace Go.Proofs.YtadifmnmfnihdaaGreat
open Go.RowKit Mach Go.Proofs.Tryz
theorem av9{P:Program}(t e:TypeId)(i:TypeInfo)(z:Value)(ht:P.underlying t=some (.slice e))(hi:P.info? e=some i)(hz:i.zero=some z)(kl kc:IntKind)(n c:Nat)(JU:n≤c)(NM:i.bytes*c≤281474976710656)(h63:c≤9223372036854775807)(w:World):(Instr.makeSlice t (.int kl (n:Int)) (.int kc (c:Int))).run P w=.ok (.slice (some ⟨w.heap.size,0,none⟩) n c) (w.alloc (.cells (madeCells z.cells (c*i.size)) e)):=by
 have hb:(i.bytes:Int)*(c:Int)≤281474976710656:=by
  have h:((i.bytes*c:Nat):Int)≤281474976710656:=oX
  rwa [Int.natCast_mul]at h
 have hr:=run_make (P:=P) w t e i z ht hi hz kl kc n c oX oX hb oX;simp only[oU]at hr;exact hr
theorem Sd:(prog.info? 154).map (fun i=>(i.zero,i.size,i.bytes))=some (some (.agg #[I 0,B false]),2,16):=kX
theorem Se:(prog.info? 169).map (fun i=>(i.zero,i.size,i.bytes))=some (some (.agg #[I 0,I 0,I 0]),3,24):=kX
theorem Sf:(prog.info? 163).map (fun i=>(i.zero,i.size,i.bytes))=some (some (.agg #[I 0,I 0,I 0]),3,24):=kX
theorem NS:(prog.info? 28).map (fun i=>(i.zero,i.size,i.bytes))=some (some (.slice none 0 0),1,24):=kX
theorem YC:(prog.info? 4).map (fun i=>(i.zero,i.size,i.bytes))=some (some (B false),1,1):=kX
theorem yx(z:Array Value)(k:Nat)(hk:z.size=k)(h0:0<k):∀n,(madeCells z (n*k)).toList=bT (fun(_:Nat) (_:Unit)=>z.toList) 0 (List.replicate n ()):=by
 intro n;apply List.ext_getElem?;intro j;have hl:(bT (fun(_:Nat) (_:Unit)=>z.toList) 0 (List.replicate n ())).length=n*k:=by rw[aV9 (k:=k) bn3];simp
 by_cases hj:j<n*k
 ·have hd:=Nat.div_add_mod j k;have hm:=Nat.mod_lt j h0;have hq:j / k<n:=Nat.div_lt_of_lt_mul (by rw[Nat.mul_comm];exact hj);have h1:=fq (f:=fun(_:Nat) (_:Unit)=>z.toList) (k:=k) bn3 (List.replicate n ()) 0 (j / k) (j % k) () (by rw[uA,aF hq]) hm;rw[show j / k*k+j % k=j by rw[Nat.mul_comm];exact hd]at h1;rw[h1];simp only[madeCells,Array.toList_map,Array.toList_range,na];rw[List.getElem?_range hj];simp only[km,hk];rw[Array.getElem?_toList,xL oX];congr 1;rw[getElem!_pos z (j % k) oX]
 ·rw[rq (by simp[size_madeCells];omega),rq oX]
theorem vL{α:Type}(f:Nat→α→List Value)(a:α)(l:List Value)(h:∀i,f i a=l):∀n i,bT (fun(_:Nat) (_:Unit)=>l) i (List.replicate n ())=bT f i (List.replicate n a)
 |0,i=>rfl
 |n+1,i=>by simp only[List.replicate_succ,bT,h,vL f a l h n (i+1)]
theorem gz{α:Type}{f:Nat→α→List Value}{a:α}{z:Array Value}(h:∀i,f i a=z.toList)(h0:0<z.size)(n:Nat):(madeCells z (n*z.size)).toList=bT f 0 (List.replicate n a):=by
 rw[yx z z.size rfl h0,vL f a z.toList h]
theorem Hq{w:World}{B e g n:Nat}{xs:List Value}(h:w.ownsRow B e 1 (.slice (some ⟨g,0,none⟩) n n) n xs):w.heap[g]?=some (.cells xs.toArray e (0,0)):=by
 exact aY5
theorem xO:(prog.info? 240).map (fun i=>(i.zero,i.size,i.bytes))=some (some (U 0),1,2):=kX
theorem rO{α:Type}(f:α→Value):∀(l:List α) (i:Nat),bT (fun _ x=>[f x]) i l=l.map f
 | [],_=>rfl
 |x::l,i=>by simp[bT,rO f l]
theorem Az(n:Nat)(h0:0<n)(hn:n≤64)(w:World):Calls prog 80 #[I n] w fun e w'=>∃b g cur,e=.returned (.pointer (some ⟨b,0,none⟩))∧w'.heap[b]?=some (.cells #[.slice (some ⟨g,0,none⟩) n n] 157 (0,0))∧w'.heap[g]?=some (.cells cur 154 (0,0))∧cur.toList=bT ry 0 (List.replicate n (0,false))∧w.heap.size≤b∧w.heap.size≤g∧b≠g∧Below w.heap.size w w':=by
 obtain⟨i0,hi,fV,gF,gG⟩:=info_parts Sd;have sN:=fun W=>av9 (P:=prog) 155 154 i0 _ underlying155 hi fV .i64 .i64 n n cG bk6 oX W
 rw[gF]at sN;clear hi fV gF gG;go_enter func80,ntmps80;go_wp2;go_ret;have s1:(w.alloc (.cells (madeCells #[I 0,B false] (n*2)) 154)).heap.size=w.heap.size+1:=sX
 refine⟨_,w.heap.size,_,rfl,bo6,(gf _ _ _ bl0).trans (dP _ _),gz (f:=ry) (a:=((0:Int),false)) (z:=#[I 0,B false]) (fun _=>rfl) dX n,oX,oX,oX,((fp _ _).alloc cG _).alloc bl0 _⟩
theorem Cz(l:List Int)(n:Nat)(hn:n=l.length)(a:Option Addr)(c:Nat)(w:World)(h:Rd .u16 w a l)(hs:n≤300):Calls prog 82 #[.slice a n c] w fun e w'=>∃b g,e=.returned (.pointer (some ⟨b,0,none⟩))∧w'.heap[b]?=some (.cells #[.slice (some ⟨g,0,none⟩) n n,I 0] 152 (0,0))∧w'.heap[g]?=some (.cells (l.map U).toArray 240 (0,0))∧w.heap.size≤b∧w.heap.size≤g∧b≠g∧Below w.heap.size w w':=by
 obtain⟨i0,hi,fV,gF,gG⟩:=info_parts xO;have Hn:=ag hn;clear hn;have H1:=ag h;clear h;go_enter func82,ntmps82;go_wp2_with (at_make;go_loud (refine wpList_make_full _ rfl _ _ 25 rfl w.heap.size 240 i0 (U 0) 1 underlying25 hi fV gF _ _ _ _ n rfl rfl rfl rfl bk6 bj4 cG ?_));intro w1 hown bX;have gq:Below w.heap.size w w1:=(fp _ _).grown bX cG bj7;rw[toList_madeCells_one]at hown;have mA:=Hq hown;have AA:=ag mA;obtain⟨cs,fa⟩:=dC (l.map U);have Sg:=ag fa;have cP:cs.length=n:=by rw[Sg.out,ko,Hn.out]
 have qz:=ag cP;clear hown bX fa mA cP;go_wp2_with (with_reducible refine wpList_copy_splice rfl (.tmp 7) (.tmp 8) 25 25 rfl 240 underlying25 kX _ _ _ _ _ _ rfl rfl w.heap.size 0 (List.replicate n (U 0)) 240 AA.out cs ?c1 ?c2 ?c3 ?c4 w.heap.size w gq cG ?_)
 case c1=>simp[qz.out]
 case c2=>
  intro h0;rw[qz.out,Hn.out]at h0;obtain⟨b,off,rfl,hc⟩:=(H1.out.below gq cG).2 h0;refine⟨_,rfl,fun j v hv=>?_⟩;rw[Sg.out,na]at hv
  have hj:j<l.length:=by
   rcases Nat.lt_or_ge j l.length with h|h
   ·exact h
   ·rw[rq h]at hv;cases hv
  exact bg2
 case c3=>simp[qz.out]
 case c4=>
  intro v hv;rw[Sg.out]at hv;exact ints_oneCell _ _ v hv
 intro w2 HG mz;go_wp2;go_ret;have hG:=HG.out;have e1:splice (List.replicate n (U 0)) 0 cs=cs:=by simp[splice,qz.out]
 rw[e1]at hG;have Rq:=(dh hG).1;have vz:=mz.size;refine⟨_,w.heap.size,rfl,dP _ _,?_,oX,Nat.le_refl _,oX,mz.alloc vz _⟩;rw[gf _ _ _ Rq,hG,Sg.out]
theorem Hr(a b c:Int)(h:nK a b c=false)(w:World):Calls prog 78 #[I a,I b,I c] w (eL (.tuple #[.pointer none,I 1]) fun w'=>w=w'):=by
 have HF:=ag (fun w1=>BB a b c w1);rw[h]at HF;clear h;go_enter func78,ntmps78;go_wp2_with (go_at_call 136;refine(HF _).mono ?_;rintro e w2 ⟨rfl,rfl⟩);go_ret2;exact⟨rfl,rfl⟩
theorem CA(N n most:Nat)(hn:n≤8)(hN:N≤64)(gI:nK N n most=true)(w:World):Calls prog 78 #[I N,I n,I most] w fun e w'=>∃b g q cur yy,e=.returned (.tuple #[.pointer (some ⟨b,0,none⟩),I 0])∧w'.heap[b]?=some (.cells #[I N,I most,.slice (some ⟨g,0,none⟩) n n,.slice none 0 0,I 0,.slice (some ⟨q,0,none⟩) N N] 150 (0,0))∧w'.heap[g]?=some (.cells cur 28 (0,0))∧cur.toList=List.replicate n (.slice none 0 0)∧w'.heap[q]?=some (.cells yy 4 (0,0))∧yy.toList=(List.replicate N false).map B∧w.heap.size≤b∧w.heap.size≤g∧w.heap.size≤q∧b≠g∧b≠q∧g≠q∧Below w.heap.size w w':=by
 obtain⟨i0,hi,fV,gF,gG⟩:=info_parts NS;obtain⟨i1,ki,JV,JW,JX⟩:=info_parts YC;have sN:=fun W=>av9 (P:=prog) 38 28 i0 _ underlying38 hi fV .i64 .i64 n n cG bk6 oX W
 have Si:=fun W=>av9 (P:=prog) 88 4 i1 _ underlying88 ki JV .i64 .i64 N N cG (by rw[JX];omega) oX W
 rw[gF]at sN;rw[JW]at Si;have HF:=ag (fun w1=>BB N n most w1);rw[gI]at HF;clear hi fV gF gG ki JV JW JX gI;go_enter func78,ntmps78;go_wp2_with (go_at_call 136;refine(HF _).mono ?_;rintro e w2 ⟨rfl,rfl⟩);go_region;all_goals go_wp2
 all_goals go_ret2
 ·generalize hx:madeCells #[Value.slice none 0 0] n=X;generalize hy:madeCells #[B false] N=Y;have s1:(w.alloc (.cells X 28)).heap.size=w.heap.size+1:=by simp
  have s2:((w.alloc (.cells X 28)).alloc (.cells Y 4)).heap.size=w.heap.size+1+1:=sX
  have hbb:=fun o=>(((fp w.heap.size w).alloc cG (.cells X 28)).alloc bl0 (.cells Y 4)).alloc bl8 o
  refine⟨_,_,_,X,Y,rfl,by rw[←s2];exact dP _ _,(gf _ _ _ bl8).trans ((gf _ _ _ bl0).trans (dP _ _)),?_,(gf _ _ _ bl8).trans bo6,?_,oX,oX,oX,oX,oX,oX,(hbb _).drew⟩
  ·exact aZ5
  ·exact bc1
 ·generalize hx:madeCells #[Value.slice none 0 0] n=X;generalize hy:madeCells #[B false] N=Y;have s1:(w.alloc (.cells Y 4)).heap.size=w.heap.size+1:=by simp
  have s2:((w.alloc (.cells Y 4)).alloc (.cells X 28)).heap.size=w.heap.size+1+1:=sX
  have hbb:=fun o=>(((fp w.heap.size w).alloc cG (.cells Y 4)).alloc bl0 (.cells X 28)).alloc bl8 o
  refine⟨_,_,_,X,Y,rfl,by rw[←s2];exact dP _ _,(gf _ _ _ bl8).trans bo6,?_,(gf _ _ _ bl8).trans ((gf _ _ _ bl0).trans (dP _ _)),?_,oX,oX,oX,oX,oX,oX,(hbb _).drew⟩
  ·exact aZ5
  ·exact bc1
def mQ(cur:Array Value)(k N j:Nat)(cs:List Value):Prop:=cur.size=N*k∧∀i q,i<j→q<k→cur[i*k+q]?=cs[q]?
theorem mQ.all{cur:Array Value}{k N:Nat}{cs:List Value}{α:Type}{f:Nat→α→List Value}{a:α}(h:mQ cur k N N cs)(hk:cs.length=k)(h0:0<k)(hf:∀i,f i a=cs):cur.toList=bT f 0 (List.replicate N a):=by
 rw[←vL f a cs hf];apply List.ext_getElem?;intro j;by_cases hj:j<N*k
 ·have hd:=Nat.div_add_mod j k;have hm:=Nat.mod_lt j h0;have hq:j / k<N:=Nat.div_lt_of_lt_mul (by rw[Nat.mul_comm];exact hj);have h1:=fq (f:=fun(_:Nat) (_:Unit)=>cs) (k:=k) (fun _ _=>hk) (List.replicate N ()) 0 (j / k) (j % k) () (by rw[uA,aF hq]) hm;rw[show j / k*k+j % k=j by rw[Nat.mul_comm];exact hd]at h1;rw[h1,←h.2 (j / k) (j % k) hq hm,show j / k*k+j % k=j by rw[Nat.mul_comm];exact hd,Array.getElem?_toList]
 ·rw[rq (by rw[Array.length_toList,h.1];omega),rq (by rw[aV9 (k:=k) (fun _ _=>hk)];simp;omega)]
theorem yz{wr:World}{g j N:Nat}{T:TypeId}{cur:Array Value}{a b c:Value}(f2:wr.heap[g]?=some (.cells cur T (0,0)))(hA:mQ cur 3 N j [a,b,c])(hj:j<N):∃YD,(((wr.setCell ⟨g,j*3,none⟩ a).setCell ⟨g,j*3+1,none⟩ b).setCell ⟨g,j*3+2,none⟩ c).heap[g]?=some (.cells YD T (0,0))∧mQ YD 3 N (j+1) [a,b,c]:=by
 have h1:=heap_setCell_same wr g (j*3) _ _ a f2;have h2:=heap_setCell_same _ g (j*3+1) _ _ b h1;have h3:=heap_setCell_same _ g (j*3+2) _ _ c h2;have hs:=hA.1;refine⟨_,h3,by simpa using hs,fun i q hi hq=>?_⟩;simp only[Array.getElem?_setIfInBounds,Array.size_setIfInBounds];by_cases K0:i=j
 ·subst K0;match q,hq with
  |0,_=>simp;omega
  |1,_=>simp;omega
  |2,_=>simp;omega
 ·rw[aE oX,aE oX,aE oX];exact hA.2 i q oX hq
theorem CC{wr:World}{g j b:Nat}(v0 v1 v2:Value)(h:b≠g):(((wr.setCell ⟨g,j*3,none⟩ v0).setCell ⟨g,j*3+1,none⟩ v1).setCell ⟨g,j*3+2,none⟩ v2).heap[b]?=wr.heap[b]?:=by
 rw[fQ _ _ _ _ bj3,fQ _ _ _ _ bj3,fQ _ _ _ _ bj3]
theorem AD(N:Nat)(hN:N≤64)(w:World):Calls prog 79 #[I N,I 16] w fun e w'=>∃b g q cur yy,e=.returned (.tuple #[.pointer (some ⟨b,0,none⟩),I 0])∧w'.heap[b]?=some (.cells #[.slice (some ⟨g,0,none⟩) N N,.slice (some ⟨q,0,none⟩) 16 16] 167 (0,0))∧w'.heap[g]?=some (.cells cur 169 (0,0))∧cur.toList=bT oD 0 (List.replicate N {})∧w'.heap[q]?=some (.cells yy 163 (0,0))∧yy.toList=bT rG 0 (List.replicate 16 {})∧w.heap.size≤b∧w.heap.size≤g∧w.heap.size≤q∧b≠g∧b≠q∧g≠q∧Below w.heap.size w w':=by
 obtain⟨i0,hi,fV,gF,gG⟩:=info_parts Se;obtain⟨i1,ki,JV,JW,JX⟩:=info_parts Sf;have sN:=fun W=>av9 (P:=prog) 164 169 i0 _ underlying164 hi fV .i64 .i64 N N cG bk6 oX W
 have Si:∀W:World,(Instr.makeSlice 165 (I 16) (I 16)).run prog W=.ok (.slice (some ⟨W.heap.size,0,none⟩) 16 16) (W.alloc (.cells (madeCells (Value.agg #[I 0,I 0,I 0]).cells (16*i1.size)) 163)):=fun W=>av9 (P:=prog) 165 163 i1 _ underlying165 ki JV .i64 .i64 16 16 cG (by rw[JX];omega) oX W
 rw[gF]at sN;rw[JW]at Si;clear hi fV gF gG ki JV JW JX;go_enter func79,ntmps79;go_wp2;go_region;generalize hx:madeCells #[I 0,I 0,I 0] (N*3)=X;generalize hy:madeCells #[I 0,I 0,I 0] 48=Y;have s1:(w.alloc (.cells X 169)).heap.size=w.heap.size+1:=sX
 have s2:((w.alloc (.cells X 169)).alloc (.cells Y 163)).heap.size=w.heap.size+1+1:=sX
 have F:∃b g q:Nat,b=w.heap.size+1+1∧g=w.heap.size∧q=w.heap.size+1:=⟨_,_,_,rfl,rfl,rfl⟩;obtain⟨b,g,q,hb,hg,hq⟩:=F;rw[←hb,←hq,←hg];obtain⟨w1,jk⟩:=dC ((((w.alloc (.cells X 169)).alloc (.cells Y 163)).alloc (.cells #[.slice (some ⟨g,0,none⟩) N N,.slice (some ⟨q,0,none⟩) 16 16] 167)).drew);have hbb:Below w.heap.size w w1:=by rw[jk];exact((((fp w.heap.size w).alloc cG (.cells X 169)).alloc bl0 (.cells Y 163)).alloc bl8 _).drew
 have e1:w1.heap[b]?=some (.cells #[.slice (some ⟨g,0,none⟩) N N,.slice (some ⟨q,0,none⟩) 16 16] 167 (0,0)):=by rw[jk,hb,←s2];exact dP _ _
 have e2:w1.heap[g]?=some (.cells X 169 (0,0)):=by rw[jk,hg];exact(gf _ _ _ bl8).trans ((gf _ _ _ bl0).trans (dP _ _))
 have e3:w1.heap[q]?=some (.cells Y 163 (0,0)):=by rw[jk,hq];exact(gf _ _ _ bl8).trans bo6
 have d:w.heap.size≤b∧w.heap.size≤g∧w.heap.size≤q∧b≠g∧b≠q∧g≠q:=oX
 rw[←jk];clear jk s1 s2 hb hg hq;rotate_left;generalize hx:madeCells #[I 0,I 0,I 0] (N*3)=X;generalize hy:madeCells #[I 0,I 0,I 0] 48=Y;have s1:(w.alloc (.cells Y 163)).heap.size=w.heap.size+1:=sX
 have s2:((w.alloc (.cells Y 163)).alloc (.cells X 169)).heap.size=w.heap.size+1+1:=sX
 have F:∃b g q:Nat,b=w.heap.size+1+1∧g=w.heap.size+1∧q=w.heap.size:=⟨_,_,_,rfl,rfl,rfl⟩;obtain⟨b,g,q,hb,hg,hq⟩:=F;rw[←hb,←hg,←hq];obtain⟨w1,jk⟩:=dC ((((w.alloc (.cells Y 163)).alloc (.cells X 169)).alloc (.cells #[.slice (some ⟨g,0,none⟩) N N,.slice (some ⟨q,0,none⟩) 16 16] 167)).drew);have hbb:Below w.heap.size w w1:=by rw[jk];exact((((fp w.heap.size w).alloc cG (.cells Y 163)).alloc bl0 (.cells X 169)).alloc bl8 _).drew
 have e1:w1.heap[b]?=some (.cells #[.slice (some ⟨g,0,none⟩) N N,.slice (some ⟨q,0,none⟩) 16 16] 167 (0,0)):=by rw[jk,hb,←s2];exact dP _ _
 have e3:w1.heap[q]?=some (.cells Y 163 (0,0)):=by rw[jk,hq];exact(gf _ _ _ bl8).trans ((gf _ _ _ bl0).trans (dP _ _))
 have e2:w1.heap[g]?=some (.cells X 169 (0,0)):=by rw[jk,hg];exact(gf _ _ _ bl8).trans bo6
 have d:w.heap.size≤b∧w.heap.size≤g∧w.heap.size≤q∧b≠g∧b≠q∧g≠q:=oX
 rw[←jk];clear jk s1 s2 hb hg hq
 all_goals
  have hX:X.size=N*3:=by rw[←hx];exact size_madeCells _ _
  have hY:Y.size=16*3:=by rw[←hy];exact size_madeCells _ _
  have hR:Hid (w1.heap[b]?=some (.cells #[.slice (some ⟨g,0,none⟩) N N,.slice (some ⟨q,0,none⟩) 16 16] 167 (0,0))∧(∃cur,w1.heap[g]?=some (.cells cur 169 (0,0))∧mQ cur 3 N 0 [I (-1),I (-1),I (-1)])∧w1.heap[q]?=some (.cells Y 163 (0,0))∧Below w.heap.size w w1):=
   ⟨e1,⟨X,e2,hX,fun i q h=>aX h oX⟩,e3,hbb⟩
  obtain⟨db,dg,dq,dbg,dbq,dgq⟩:=d;have c0:w1.cell? ⟨b,0,none⟩=some (.slice (some ⟨g,0,none⟩) N N):=by rw[cr _ _ _ _ _ _ e1];rfl
  have HY:=ag hY;clear sN Si hx hy e1 e2 e3 hbb hX hY;go_wp2;go_loopw [34] (fun i wr=>∃j:Nat,i=.int .i64 j∧j≤N∧Hid (wr.heap[b]?=some (.cells #[.slice (some ⟨g,0,none⟩) N N,.slice (some ⟨q,0,none⟩) 16 16] 167 (0,0))∧(∃cur,wr.heap[g]?=some (.cells cur 169 (0,0))∧mQ cur 3 N j [I (-1),I (-1),I (-1)])∧wr.heap[q]?=some (.cells Y 163 (0,0))∧Below w.heap.size w wr)) (fun i _=>N-(intOf i).toNat)
  case atStart=>exact⟨0,rfl,oX,hR⟩
  case round=>
   clear hR c0;obtain⟨j,rfl,hj,HR⟩:=hrel;by_cases dD:j<N
   ·obtain⟨f1,⟨cur,f2,hA⟩,f3,hB⟩:=HR.out;have c0:wr.cell? ⟨b,0,none⟩=some (.slice (some ⟨g,0,none⟩) N N):=(by rw[cr _ _ _ _ _ _ f1];rfl);have t0:wr.cell? ⟨g,j*3,none⟩=some (cur[j*3]' bl5):=by rw[cr _ _ _ _ _ _ f2];exact xL _
    have t1:wr.cell? ⟨g,j*3+1,none⟩=some (cur[j*3+1]' bl5):=by rw[cr _ _ _ _ _ _ f2];exact xL _
    have t2:wr.cell? ⟨g,j*3+2,none⟩=some (cur[j*3+2]' bl5):=by rw[cr _ _ _ _ _ _ f2];exact xL _
    have u0:=iM wr g (j*3) _ _ f2;have u1:=iM wr g (j*3+1) _ _ f2;have u2:=iM wr g (j*3+2) _ _ f2;generalize cur[j*3]' bl5=v0 at t0;generalize cur[j*3+1]' bl5=v1 at t1;generalize cur[j*3+2]' bl5=v2 at t2;clear f1 f2 hA f3 hB;go_wp2;refine⟨⟨j+1,rfl,oX,?_⟩,by simp[intOf];omega⟩;obtain⟨f1,⟨cur,f2,hA⟩,f3,hB⟩:=HR.out;exact⟨(CC _ _ _ dbg).trans f1,yz f2 hA dD,(CC _ _ _ (dE dgq)).trans f3,((hB.setCell dg _).setCell dg _).setCell dg _⟩
   ·obtain rfl:j=N:=by omega
    have c1:wr.cell? ⟨b,1,none⟩=some (.slice (some ⟨q,0,none⟩) 16 16):=by rw[cr _ _ _ _ _ _ HR.out.1];rfl
    have hR2:Hid (wr.heap[b]?=some (.cells #[.slice (some ⟨g,0,none⟩) j j,.slice (some ⟨q,0,none⟩) 16 16] 167 (0,0))∧(∃cur,wr.heap[g]?=some (.cells cur 169 (0,0))∧mQ cur 3 j j [I (-1),I (-1),I (-1)])∧(∃cur,wr.heap[q]?=some (.cells cur 163 (0,0))∧mQ cur 3 16 0 [I (-1),I (-1),I 0])∧Below w.heap.size w wr):=
     ⟨HR.out.1,HR.out.2.1,⟨Y,HR.out.2.2.1,HY,fun i q h=>aX h oX⟩,HR.out.2.2.2⟩
    clear HR HY;go_wp2;go_loopw [50] (fun i wr=>∃k:Nat,i=.int .i64 k∧k≤16∧Hid (wr.heap[b]?=some (.cells #[.slice (some ⟨g,0,none⟩) j j,.slice (some ⟨q,0,none⟩) 16 16] 167 (0,0))∧(∃cur,wr.heap[g]?=some (.cells cur 169 (0,0))∧mQ cur 3 j j [I (-1),I (-1),I (-1)])∧(∃cur,wr.heap[q]?=some (.cells cur 163 (0,0))∧mQ cur 3 16 k [I (-1),I (-1),I 0])∧Below w.heap.size w wr)) (fun i _=>16-(intOf i).toNat)
    case atStart=>exact⟨0,rfl,oX,hR2⟩
    case round=>
     clear hR2 c1;obtain⟨k,rfl,hk,HR⟩:=hrel;by_cases dD:k<16
     ·obtain⟨f1,f2,⟨cur,f3,hA⟩,hB⟩:=HR.out;have c0:wr.cell? ⟨b,1,none⟩=some (.slice (some ⟨q,0,none⟩) 16 16):=(by rw[cr _ _ _ _ _ _ f1];rfl);have t0:wr.cell? ⟨q,k*3,none⟩=some (cur[k*3]' bl5):=by rw[cr _ _ _ _ _ _ f3];exact xL _
      have t1:wr.cell? ⟨q,k*3+1,none⟩=some (cur[k*3+1]' bl5):=by rw[cr _ _ _ _ _ _ f3];exact xL _
      have t2:wr.cell? ⟨q,k*3+2,none⟩=some (cur[k*3+2]' bl5):=by rw[cr _ _ _ _ _ _ f3];exact xL _
      have u0:=iM wr q (k*3) _ _ f3;have u1:=iM wr q (k*3+1) _ _ f3;have u2:=iM wr q (k*3+2) _ _ f3;generalize cur[k*3]' bl5=v0 at t0;generalize cur[k*3+1]' bl5=v1 at t1;generalize cur[k*3+2]' bl5=v2 at t2;clear f1 f2 hA f3 hB;go_wp2;refine⟨⟨k+1,rfl,oX,?_⟩,by simp[intOf];omega⟩;obtain⟨f1,⟨yy,f2,Lf⟩,⟨cur,f3,hA⟩,hB⟩:=HR.out;exact⟨(CC _ _ _ dbq).trans f1,⟨yy,(CC _ _ _ dgq).trans f2,Lf⟩,yz f3 hA dD,((hB.setCell dq _).setCell dq _).setCell dq _⟩
     ·obtain rfl:k=16:=by omega
      go_wp2;go_ret2;obtain⟨f1,⟨yy,f2,Lf⟩,⟨cur,f3,hA⟩,hB⟩:=HR.out;exact⟨b,g,q,yy,cur,rfl,f1,f2,Lf.all rfl dX (fun _=>rfl),f3,hA.all rfl dX (fun _=>rfl),db,dg,dq,dbg,dbq,dgq,hB⟩
theorem yA(w:World):Calls prog 81 #[I 0] w fun e w'=>∃b g cur,e=.returned (.pointer (some ⟨b,0,none⟩))∧w'.heap[b]?=some (.cells #[.slice (some ⟨g,0,none⟩) 0 0] 161 (0,0))∧w'.heap[g]?=some (.cells cur 3 (0,0))∧cur.size=0∧w.heap.size≤b∧w.heap.size≤g∧b≠g∧Below w.heap.size w w':=by
 obtain⟨i0,hi,fV,gF,gG⟩:=info_parts lC;have sN:∀W:World,(Instr.makeSlice 28 (I 0) (I 0)).run prog W=.ok (.slice (some ⟨W.heap.size,0,none⟩) 0 0) (W.alloc (.cells (madeCells (I 0).cells (0*i0.size)) 3)):=fun W=>av9 (P:=prog) 28 3 i0 _ underlying28 hi fV .i64 .i64 0 0 cG bk6 oX W
 clear hi fV gF gG;go_enter func81,ntmps81;go_wp2;have s1:(w.alloc (.cells (madeCells #[I 0] 0) 3)).heap.size=w.heap.size+1:=sX
 have hbb:Hid (∀o,Below w.heap.size w ((w.alloc (.cells (madeCells #[I 0] 0) 3)).alloc o)):=fun o=>(((fp w.heap.size w).alloc cG (.cells (madeCells #[I 0] 0) 3)).alloc bl0 o)
 have S1:=ag s1;clear s1 sN;go_loopw [16] (fun i wr=>i=.int .i64 0∧Hid (wr.heap=((w.alloc (Obj.cells (madeCells #[I 0] 0) 3)).alloc (Obj.cells #[Value.slice (some ⟨w.heap.size,0,none⟩) 0 0] 161)).heap∧Below w.heap.size w wr)) (fun i _=>0)
 case atStart=>exact⟨rfl,rfl,hbb.out _⟩
 case round=>
  obtain⟨rfl,HR⟩:=hrel;go_wp2;go_ret;obtain⟨h1,h2⟩:=HR.out;have s1:=S1.out;refine⟨_,w.heap.size,_,rfl,by rw[h1,←s1];exact dP _ _,by rw[h1];exact(gf _ _ _ bl0).trans (dP _ _),size_madeCells _ _,oX,oX,oX,h2⟩
abbrev oJ:=Option Nat×Nat×List Value
structure eh(lo:Nat)(w0 w:World)(L:List (bH×oJ)):Prop where
 below:Below lo w0 w
 tL:lo≤w.heap.size
 nd:(L.filterMap fun e=>e.2.1).Nodup
 lies:∀e∈L,∀b,e.2.1=some b→lo≤b∧gl w b (eI e.1) e.2.2.1 e.2.2.2
 none_:∀e∈L,e.2.1=none→e.2.2.2=[]
section
variable{lo:Nat}{w0 w w':World}{L N:List (bH×oJ)}
theorem eh.eC(H:eh lo w0 w L)(hb:Below w.heap.size w w'):eh lo w0 w' L:=
 ⟨H.below.trans (hb.mono H.tL),jm H.tL hb.size,H.nd,fun e he b h=>⟨(H.lies e he b h).1,(H.lies e he b h).2.other (hb.block b (H.lies e he b h).2.lt)⟩,H.none_⟩
theorem eh.drew(H:eh lo w0 w L):eh lo w0 w.drew L:=H.eC (fp _ _).drew
section
variable(H:eh lo w0 w L)(hb:Below w.heap.size w w')
include H hb
theorem eh.ext(fX:(N.filterMap fun e=>e.2.1).Nodup)(hN:∀e∈N,∀b,e.2.1=some b→w.heap.size≤b∧gl w' b (eI e.1) e.2.2.1 e.2.2.2)(h0:∀e∈N,e.2.1=none→e.2.2.2=[]):eh lo w0 w' (N++L):=by
 have H':=H.eC hb;refine⟨H'.below,H'.tL,?_,fun e he b h=>?_,fun e he h=>?_⟩
 ·rw[List.filterMap_append,tB];refine⟨fX,H.nd,fun x hx y hy e=>?_⟩;obtain⟨e1,h1,h2⟩:=List.mem_filterMap.1 hx;obtain⟨e2,h3,h4⟩:=List.mem_filterMap.1 hy;have:=(hN e1 h1 x h2).1;have:=(H.lies e2 h3 y h4).2.lt;omega
 ·rcases List.mem_append.1 he with he|he
  ·exact⟨jm H.tL (hN e he b h).1,(hN e he b h).2⟩
  ·exact H'.lies e he b h
 ·rcases List.mem_append.1 he with he|he
  ·exact h0 e he h
  ·exact H.none_ e he h
theorem eh.Og(r:bH)(b cap:Nat)(cs:List Value)(h0:w.heap.size≤b)(hl:gl w' b (eI r) cap cs):eh lo w0 w' ((r,some b,cap,cs)::L):=by
 refine H.ext (N:=[(r,some b,cap,cs)]) hb sX (fun e he b' h=>?_) (fun e he h=>?_)
 ·simp only[List.mem_singleton]at he;subst he;cases h;exact⟨h0,hl⟩
 ·simp only[List.mem_singleton]at he;subst he;cases h
theorem eh.Sv(r r2:bH)(b b2 cap hU:Nat)(cs Ru:List Value)(h0:w.heap.size≤b)(hl:gl w' b (eI r) cap cs)(h2:w.heap.size≤b2)(pJ:gl w' b2 (eI r2) hU Ru)(cM:b≠b2):eh lo w0 w' ((r,some b,cap,cs)::(r2,some b2,hU,Ru)::L):=by
 refine H.ext (N:=[(r,some b,cap,cs),(r2,some b2,hU,Ru)]) hb (by simp[cM]) (fun e he b' h=>?_) (fun e he h=>?_)
 ·simp only[iL,List.not_mem_nil,or_false]at he;rcases he with rfl|rfl<;>cases h
  ·exact⟨h0,hl⟩
  ·exact⟨h2,pJ⟩
 ·simp only[iL,List.not_mem_nil,or_false]at he;rcases he with rfl|rfl<;>cases h
theorem eh.Y8(r r2 r3:bH)(b b2 b3 cap hU Oh:Nat)(cs Ru cs3:List Value)(h0:w.heap.size≤b)(hl:gl w' b (eI r) cap cs)(h2:w.heap.size≤b2)(pJ:gl w' b2 (eI r2) hU Ru)(h3:w.heap.size≤b3)(XG:gl w' b3 (eI r3) Oh cs3)(cM:b≠b2∧b≠b3∧b2≠b3):eh lo w0 w' ((r,some b,cap,cs)::(r2,some b2,hU,Ru)::(r3,some b3,Oh,cs3)::L):=by
 refine H.ext (N:=[(r,some b,cap,cs),(r2,some b2,hU,Ru),(r3,some b3,Oh,cs3)]) hb (by simp[cM]) (fun e he b' h=>?_) (fun e he h=>?_)
 ·simp only[iL,List.not_mem_nil,or_false]at he;rcases he with rfl|rfl|rfl<;>cases h
  ·exact⟨h0,hl⟩
  ·exact⟨h2,pJ⟩
  ·exact⟨h3,XG⟩
 ·simp only[iL,List.not_mem_nil,or_false]at he;rcases he with rfl|rfl|rfl<;>cases h
end
theorem eh.ai7(H:eh lo w0 w L)(r:bH):eh lo w0 w ((r,none,0,[])::L):=by
 refine H.ext (N:=[(r,none,0,[])]) (fp _ _) sX (fun e he b' h=>?_) (fun e he h=>?_)
 ·simp only[List.mem_singleton]at he;subst he;cases h
 ·simp only[List.mem_singleton]at he;subst he;rfl
theorem yK{L:List (bH×oJ)}{k:bH}{e:oJ}(h:L.lookup k=some e):(k,e)∈L:=by
 induction L with
 |nil=>cases h
 |cons p L ih=>
  obtain⟨k',e'⟩:=p;rw[List.lookup_cons]at h;split at h
  ·rename_i hk;have hk:=eq_of_beq hk
   cases h;rw[hk];exact rn ..
  ·exact nO _ (ih h)
theorem BL{L:List (bH×oJ)}(h:(L.filterMap fun e=>e.2.1).Nodup){x y:bH×oJ}(hx:x∈L)(hy:y∈L){b:Nat}(h1:x.2.1=some b)(h2:y.2.1=some b):x=y:=by
 induction L with
 |nil=>cases hx
 |cons p L ih=>
  rw[List.filterMap_cons]at h
  cases hp:p.2.1 with
  |none=>
   rw[hp]at h;rcases iL.1 hx with rfl|hx
   ·rw[hp]at h1;cases h1
   rcases iL.1 hy with rfl|hy
   ·rw[hp]at h2;cases h2
   exact ih h hx hy
  |some c=>
   rw[hp]at h;obtain⟨h3,h4⟩:=List.nodup_cons.1 h;rcases iL.1 hx with ex|kt
   ·rcases iL.1 hy with ey|rN
    ·rw[ex,ey]
    ·rw[ex,hp]at h1;cases h1;exact aX (List.mem_filterMap (f:=fun e:bH×oJ=>e.2.1).2 ⟨y,rN,h2⟩) h3
   ·rcases iL.1 hy with ey|rN
    ·rw[ey,hp]at h2;cases h2;exact aX (List.mem_filterMap (f:=fun e:bH×oJ=>e.2.1).2 ⟨x,kt,h1⟩) h3
    ·exact ih h4 kt rN
theorem eh.cell(H:eh lo w0 w L){r:bH}{b cap j:Nat}{cs:List Value}(h:(r,some b,cap,cs)∈L){v:Value}(hv:cs[j]?=some v):w.cell? ⟨b,j,none⟩=some v:=(H.lies _ h b rfl).2.cell j v hv
theorem eh.own(H:eh lo w0 w L){f:bH→Option oJ}(hf:∀k,f k=none∨L.lookup k=f k):cN lo w0 w (fun k=>(f k).bind (·.1)) eI (fun k=>((f k).map (·.2.1)).getD 0) (fun k=>((f k).map (·.2.2)).getD []):=by
 have key:∀k b,(f k).bind (·.1)=some b→∃e,f k=some e∧e.1=some b∧(k,e)∈L:=fun k b h=>by obtain⟨e,h1,h2⟩:=cI.1 h;exact⟨e,h1,h2,yK (((hf k).resolve_left (by rw[h1];simp)).trans h1)⟩
 refine⟨H.below,H.tL,fun k k' b h1 h2=>?_,fun k b h=>?_,fun k h=>?_⟩
 ·obtain⟨e,_,h3,h4⟩:=key k b h1;obtain⟨e',_,h5,h6⟩:=key k' b h2;have:=BL H.nd h4 h6 (b:=b) h3 h5;exact(Prod.mk.inj this).1
 ·obtain⟨e,h2,h3,h4⟩:=key k b h;have:=H.lies _ h4 b h3;simp only[h2,km,Option.getD_some];exact this
 ·cases hk:f k with
  |none=>rfl
  |some e=>
   rw[hk]at h;have:=H.none_ _ (yK (((hf k).resolve_left (by rw[hk];simp)).trans hk)) h;simp only[km,Option.getD_some];exact this
end
theorem fF{w:World}{b:Nat}{cur:Array Value}{t:TypeId}{cs:List Value}{cap:Nat}{ty:Option (Nat×Nat)}(h:w.heap[b]?=some (.cells cur t (0,0)))(hc:cur.toList=cs)(nI:∀p,ty=some p→t=p.1∧cur.size=cap*p.2∧cap≤maxLen):gl w b ty cap cs:=by
 have hl:cs.length=cur.size:=by rw[←hc];simp
 exact⟨cur,t,h,oX,by rw[←hc];exact List.take_length,nI⟩
def UH(b:Option Nat):Option Addr:=b.map fun b=>⟨b,0,none⟩
theorem Sw{b:Option Nat}{n c:Nat}(h:b=none→n=0∧c=0):Value.slice (UH b) n c=nG b n c:=by
 cases b with
 |none=>obtain⟨rfl,rfl⟩:=h rfl;rfl
 |some b=>rfl
theorem uT{P:Program}{ops:Array Oper}{o:Oper}{a:Act}{w:World}{K:Act→World→Prop}{Q:Exit→Act→World→Prop}{E:Prop}(nX:o.guard=none)(s x:Operand)(t:TypeId)(ho:o.op=.call {callee:=.builtin .append,args:=#[s,x],argTypes:=#[t,t]}){e:TypeId}{i:TypeInfo}{z:Value}{size bytes:Nat}(ht:P.underlying t=some (.slice e))(hi:P.info? e=some i)(hz:i.zero=some z)(hsize:i.size=size)(hby:i.bytes=bytes)(hzs:z.cells.size=size)(hsz:0<size)(hbb:bytes≤200)(hs:a.eval s=.slice none 0 0)(ao:Option Addr)(n c:Nat)(hx:a.eval x=.slice ao n c)(cs:List Value)(hl:cs.length=n*size)(hc:0<n→∃b off,ao=some ⟨b,off,none⟩∧∀j u,cs[j]?=some u→w.cell? ⟨b,off+j,none⟩=some u)(h1:∀u∈cs,u.oneCell'=true)(hn:n<1000001){lo:Nat}{w0:World}{L:List (bH×oJ)}(H:eh lo w0 w L)(r:bH)(hr:∀q,eI r=some q→q=(e,size))(h:∀hb cap w',w.grownBy w' none→eh lo w0 w' ((r,hb,cap,cs)::L)→(hb=none→n=0∧cap=0)→K (a.put o.dst (.slice (UH hb) n cap)) w'):if Region.wanted o (yielded ops a.tmps)=true then Oper.wp P o a w K Q else E:=by
 have hw:Region.wanted o (yielded ops a.tmps)=true:=bm2
 rw[aF hw];refine tN s x t ho ht hi hz hsize hby hzs hsz hbb hs ao n c hx cs hl hc h1 hn fun hb cap w' h2 h3=>?_
 have gq:Below w.heap.size w w':=(fp _ _).grown h2 cG bj7;rcases h3 with⟨rfl,rfl,rfl⟩|⟨rfl,h3⟩
 ·have fa:cs=[]:=xn (by simpa using hl);subst fa;refine h none 0 w' h2 ?_ (fun _=>⟨rfl,rfl⟩);exact(H.eC gq).ai7 r
 ·obtain⟨h4,h5⟩:=gl.kg (ty:=eI r) (p:=(e,size)) hr h3;exact h (some w.heap.size) cap w' h2 (H.Og gq r _ cap cs h4 h5) (fun h=>bk0)
theorem xU:(prog.info? 105).map (fun i=>(i.zero,i.size,i.bytes))=some (some (.agg #[B false,I 0,I 0,I 0,B false,I 0,B false]),7,56):=kX
theorem BM(n:Nat)(h0:0<n)(hn:n≤64){lo:Nat}{w0 w:World}{L:List (bH×oJ)}(H:eh lo w0 w L):Calls prog 80 #[I n] w fun e w'=>∃b g,e=.returned (.pointer (some ⟨b,0,none⟩))∧eh lo w0 w' ((.dB,some b,0,[.slice (some ⟨g,0,none⟩) n n])::(.ax,some g,n,bT ry 0 (List.replicate n (0,false)))::L):=by
 refine(Az n h0 hn w).mono ?_;rintro e w' ⟨b,g,cur,rfl,f1,f2,f3,f4,f5,f6,f7⟩;exact⟨b,g,rfl,H.Sv f7 _ _ _ _ _ _ _ _ f4 (fF f1 rfl (fun p h=>bp2)) f5 (fF f2 f3 (fun p h=>bp2)) f6⟩
theorem LF{lo:Nat}{w0 w:World}{L:List (bH×oJ)}(H:eh lo w0 w L):Calls prog 81 #[I 0] w fun e w'=>∃b g,e=.returned (.pointer (some ⟨b,0,none⟩))∧eh lo w0 w' ((.dY,some b,0,[.slice (some ⟨g,0,none⟩) 0 0])::(.dQ,some g,0,[])::L):=by
 refine(yA w).mono ?_;rintro e w' ⟨b,g,cur,rfl,f1,f2,f3,f4,f5,f6,f7⟩;exact⟨b,g,rfl,H.Sv f7 _ _ _ _ _ _ _ _ f4 (fF f1 rfl (fun p h=>bp2)) f5 (fF f2 (by simpa using f3) (fun p h=>by simp[eI]at h;subst h;exact⟨rfl,by simpa using f3,bj4⟩)) f6⟩
theorem E0(l:List Int)(n:Nat)(hn:n=l.length)(a:Option Addr)(c:Nat){lo:Nat}{w0 w:World}{L:List (bH×oJ)}(H:eh lo w0 w L)(h:Rd .u16 w a l)(hs:n≤300):Calls prog 82 #[.slice a n c] w fun e w'=>∃b g,e=.returned (.pointer (some ⟨b,0,none⟩))∧eh lo w0 w' ((.gN,some b,0,[.slice (some ⟨g,0,none⟩) n n,I 0])::(.list,some g,n,l.map U)::L):=by
 refine(Cz l n hn a c w h hs).mono ?_;rintro e w' ⟨b,g,rfl,f1,f2,f4,f5,f6,f7⟩;exact⟨b,g,rfl,H.Sv f7 _ _ _ _ _ _ _ _ f4 (fF f1 rfl (fun p h=>bp2)) f5 (fF f2 rfl (fun p h=>bp2)) f6⟩
theorem E1(N n most:Nat)(hn:n≤8)(hN:N≤64)(gI:nK N n most=true){lo:Nat}{w0 w:World}{L:List (bH×oJ)}(H:eh lo w0 w L):Calls prog 78 #[I N,I n,I most] w fun e w'=>∃b g q,e=.returned (.tuple #[.pointer (some ⟨b,0,none⟩),I 0])∧eh lo w0 w' ((.Eg,some b,0,[I N,I most,.slice (some ⟨g,0,none⟩) n n,.slice none 0 0,I 0,.slice (some ⟨q,0,none⟩) N N])::(.aC,some g,n,List.replicate n (.slice none 0 0))::(.bV,some q,N,(List.replicate N false).map B)::L):=by
 refine(CA N n most hn hN gI w).mono ?_;exact aY2
theorem BN(N:Nat)(hN:N≤64){lo:Nat}{w0 w:World}{L:List (bH×oJ)}(H:eh lo w0 w L):Calls prog 79 #[I N,I 16] w fun e w'=>∃b g q,e=.returned (.tuple #[.pointer (some ⟨b,0,none⟩),I 0])∧eh lo w0 w' ((.aw,some b,0,[.slice (some ⟨g,0,none⟩) N N,.slice (some ⟨q,0,none⟩) 16 16])::(.aS,some g,N,bT oD 0 (List.replicate N {}))::(.bM,some q,16,bT rG 0 (List.replicate 16 {}))::L):=by
 refine(AD N hN w).mono ?_;exact aY2
namespace V
def BC(l:List Nat):Int:=match l.head? with|some x=>x|none=> -1
def CD(l:List Nat):Int:=match l.getLast? with|some x=>x|none=> -1
theorem CE:BC []= -1:=rfl
theorem lF(x:Nat)(l:List Nat):BC (x::l)=x:=rfl
theorem CF:CD []= -1:=rfl
theorem jx(l:List Nat)(x:Nat):CD (l++[x])=x:=by simp[CD]
theorem nY(a b:List Nat):BC (a++b)=if a=[]then BC b else BC a:=by cases a<;>simp[BC]
theorem xP(a b:List Nat):CD (a++b)=if b=[]then CD a else CD b:=by
 rcases ym b with rfl|⟨b',y,rfl⟩
 ·simp
 ·simp only[yn,←List.append_assoc,jx];simp
theorem Sj{l:List Nat}(h:CD l= -1):l=[]:=by
 rcases ym l with rfl|⟨l',y,rfl⟩
 ·rfl
 ·rw[yn,jx]at h;omega
structure xQ(q:bf)(ls:List (List Nat)):Prop where
 len:q.bM.length=ls.length
 line:∀(k:Nat) l,ls[k]?=some l→q.bM[k]?=some {first:=BC l,last:=CD l,count:=l.length}
 thing:∀(k:Nat) (a b:List Nat) x,ls[k]?=some (a++x::b)→q.aS[x]?=some {pX:=k,behind:=BC b,ahead:=CD a}
 out:∀(x:Nat) t,q.aS[x]?=some t→(∀(k:Nat) l,ls[k]?=some l→x ∉ l)→t={}
 nodup:∀(k:Nat) l,ls[k]?=some l→l.Nodup
theorem jy:∀(n:Nat) (l:List Nat),l.Nodup→(∀x∈l,x<n)→l.length≤n
 |0,l,_,h=>by
  cases l with
  |nil=>simp
  |cons x l=>exact aX (h x sX) oX
 |n+1,l,hn,h=>by
  by_cases hm:n∈l
  ·have h1:=List.length_erase_of_mem hm
   have h2:=jy n (l.erase n) (hn.erase n) (fun x hx=>by
    have h3:=h x (List.mem_of_mem_erase hx);have h4:x≠n:=fun e=>by rw[e]at hx;exact(hn.mem_erase_iff.1 hx).1 rfl
    omega)
   omega
  ·exact Nat.le_succ_of_le (jy n l hn (fun x hx=>by
    have h3:=h x hx;have h4:x≠n:=fun e=>hm (e▸hx)
    omega))
section
variable{q:bf}{ls:List (List Nat)}
theorem xQ.lt(Q:xQ q ls){k x:Nat}{l:List Nat}(h:ls[k]?=some l)(hx:x∈l):x<q.aS.length:=by
 obtain⟨a,b,rfl⟩:=List.append_of_mem hx;exact(uC (Q.thing k a b x h)).1
theorem xQ.inj(Q:xQ q ls){k k' x:Nat}{l l':List Nat}(h:ls[k]?=some l)(hx:x∈l)(h':ls[k']?=some l')(th:x∈l'):k=k':=by
 obtain⟨a,b,rfl⟩:=List.append_of_mem hx;obtain⟨a',b',rfl⟩:=List.append_of_mem th;have e:=(Q.thing k a b x h).symm.trans (Q.thing k' a' b' x h');simp only[oZ,nf.mk.injEq]at e;omega
theorem xQ.small(Q:xQ q ls){k:Nat}{l:List Nat}(h:ls[k]?=some l):l.length≤q.aS.length:=jy _ _ (Q.nodup k l h) fun x hx=>Q.lt h hx
theorem xQ.first(Q:xQ q ls)(k:Nat):q.first k=match ls[k]? with|some (x::_)=>((x:Int),true)|_=>(0,false):=by
 unfold bf.first idx;simp only[Int.natCast_nonneg,dt,oU]
 cases h:ls[k]? with
 |none=>
  exact be8
 |some l=>
  rw[Q.line k l h]
  cases l with
  |nil=>simp
  |cons x l=>simp[lF];intro h;omega
theorem xQ.aS1(Q:xQ q ls)(k:Nat):q.len k=((ls[k]?).map (fun l=>(l.length:Int))).getD 0:=by
 unfold bf.len idx;simp only[Int.natCast_nonneg,dt,oU]
 cases h:ls[k]? with
 |none=>
  exact be8
 |some l=>simp[Q.line k l h]
theorem rP{k k':Nat}{l l' m:List Nat}(h:ls[k]?=some l)(h':(ls.set k m)[k']?=some l'):(k'=k∧l'=m)∨(k'≠k∧ls[k']?=some l'):=by
 rw[sW]at h';split at h'
 ·rename_i e;split at h'
  ·cases h';exact .inl ⟨e.symm,rfl⟩
  ·cases h'
 ·rename_i e;exact .inr ⟨fun x=>e x.symm,h'⟩
theorem yB{k:Nat}{l:List Nat}(h:ls[k]?=some l)(m:List Nat):(ls.set k m)[k]?=some m:=by
 rw[nH (cA h)]
theorem AE{l:List nf}{x:Nat}{t:nf}(h:l[x]?=some t)(y:Nat)(t':nf):(l.set y t')[x]?=if y=x then some t' else some t:=by
 rw[sW,h];split
 ·rename_i e;subst e;rw[aF (cA h)]
 ·rfl
theorem xQ.push(Q:xQ q ls){k x:Nat}{l:List Nat}(h:ls[k]?=some l)(hx:x<q.aS.length)(hn:∀(k:Nat) l,ls[k]?=some l→x ∉ l)(hb:q.aS.length≤1000):∃q',q.push k x=some (q',true)∧xQ q' (ls.set k (l++[x]))∧q'.aS.length=q.aS.length:=by
 obtain⟨t,ht⟩:∃t,q.aS[x]?=some t:=⟨_,fv hx⟩;have ht0:=Q.out x t ht hn;subst ht0;have hl:=Q.line k l h;have hs:=Q.small h;have vI:x ∉ l:=hn k l h;have vA:k<q.bM.length:=cA hl;have eK:kJ (l.length:Int)=true:=bl3
 have key:∀q':bf,q'.bM=q.bM.set k {first:=BC (l++[x]),last:=(x:Int),count:=((l++[x]).length:Int)}→
   q'.aS.length=q.aS.length→q'.aS[x]?=some {pX:=k,behind:= -1,ahead:=CD l}→
   (∀a y,l=a++[y]→q'.aS[y]?=some {pX:=k,behind:=x,ahead:=CD a})→
   (∀y,y≠x→(∀a,l≠a++[y])→q'.aS[y]?=q.aS[y]?)→xQ q' (ls.set k (l++[x])):=by
  intro q' h1 h2 h3 h4 h5;have j7:∀a y,l=a++[y]→y≠x:=fun a y e e'=>vI (by rw[e,←e'];simp)
  refine⟨by rw[h1];simp[Q.len],?_,?_,?_,?_⟩
  ·intro k' l' h';rcases rP h h' with⟨rfl,rfl⟩|⟨cM,h'⟩
   ·rw[h1,nH vA,jx]
   ·rw[h1,oA (dE cM)];exact Q.line k' l' h'
  ·intro k' a b y h';rcases rP h h' with⟨rfl,e⟩|⟨cM,h'⟩
   ·rcases ym b with rfl|⟨b',z,rfl⟩
    ·have e2:=List.append_inj' e sX;obtain⟨rfl,e3⟩:=e2;simp only[List.cons.injEq,and_true]at e3;subst e3;exact h3
    ·rw[yn]at e ⊢;rw[←sY,←List.append_assoc]at e;obtain⟨e1,e3⟩:=List.append_inj' e sX;simp only[List.cons.injEq,and_true]at e3;subst e3;have ai2:y≠z:=fun e'=>vI (by rw[←e1,e'];simp)
     rcases ym b' with rfl|⟨b2,u,rfl⟩
     ·rw[h4 a y e1.symm];simp[lF]
     ·rw[yn]at e1 ⊢;rw[h5 y ai2 (fun c hc=>?_),Q.thing k' a (b2++[u]) y (by rw[h,e1])]
      ·rw[nY,nY (b2++[u]),nY];simp
      ·have e4:=Q.nodup k' l h;rw[←e1]at e4 hc;rw[←sY,←List.append_assoc]at hc;obtain⟨_,e5⟩:=List.append_inj' hc sX;simp only[List.cons.injEq,and_true]at e5;subst e5;simp[tB]at e4
   ·have hy:y≠x:=fun e=>hn k' _ h' bp0
    rw[h5 y hy (fun c hc=>?_)]
    ·exact Q.thing k' a b y h'
    ·exact cM (Q.inj (x:=y) h' sX h (by rw[hc];simp))
  ·intro y t' NU Vw;have hy:y≠x:=fun e=>Vw k _ (yB h _) bp0
   rw[h5 y hy (fun c hc=>Vw k _ (yB h _) (by rw[hc];simp))]at NU;refine Q.out y t' NU fun k' l' h' hm=>?_
   by_cases hk:k'=k
   ·subst hk;rw[h]at h';cases h';exact Vw k' _ (yB h _) (by simp[hm])
   ·exact Vw k' l' (by rw[oA (dE hk)];exact h') hm
  ·intro k' l' h';rcases rP h h' with⟨rfl,rfl⟩|⟨cM,h'⟩
   ·rw[tB];refine⟨Q.nodup k' l h,sX,?_⟩;intro u hu v hv;simp at hv;subst hv;exact fun e=>vI (e▸hu)
   ·exact Q.nodup k' l' h'
 unfold bf.push idx;simp only[Int.natCast_nonneg,dt,oU,hl,ht];simp only[ne_eq,not_true_eq_false,dF,eK,aH6];by_cases hz:CD l= -1
 ·have xq:=Sj hz;subst xq;rw[aF hz];refine⟨_,rfl,key _ ?_ bm0 ?_ ?_ ?_,bm0⟩
  ·simp[bf.fJ,bf.fe,BC]
  ·simp only[bf.fJ,bf.fe];rw[AE ht];simp[CF]
  ·intro a y e;simp at e
  ·intro y hy _;simp only[bf.fJ,bf.fe];rw[oA (dE hy)]
 ·rw[aE hz];rcases ym l with rfl|⟨a,y,rfl⟩
  ·exact aX CF hz
  rw[yn]at*;have nI:=Q.thing k a [] y h;have Nd:y≠x:=fun e=>vI bp0
  simp only[jx,nat?,Int.natCast_nonneg,dt,oU,bW,eN,nI,aE Nd];refine⟨_,rfl,key _ ?_ bm0 ?_ ?_ ?_,bm0⟩
  ·simp only[bf.fJ,bf.fe];congr 2
   ·rw[nY (a++[y])];simp
   ·simp;omega
  ·simp only[bf.fJ,bf.fe];rw[AE (AE ht _ _ |>.trans (aF rfl)),aE Nd,jx]
  ·intro c u e;obtain⟨rfl,e2⟩:=List.append_inj' e sX;simp only[List.cons.injEq,and_true]at e2;subst e2;simp only[bf.fJ,bf.fe];rw[AE (AE nI x _ |>.trans (aE (dE Nd))),aF rfl]
  ·intro u hu j7;have YE:u≠y:=fun e=>j7 a bt7
   simp only[bf.fJ,bf.fe];rw[oA (dE YE),oA (dE hu)]
end
end V
theorem Sy:(prog.info? 2).map (fun i=>(i.zero,i.size,i.bytes))=some (some (I 0),1,8):=kX
theorem underlying57:prog.underlying 57=some (.slice 2):=kX
theorem E7{w:World}{B e g n:Nat}{xs:List Value}(h:w.ownsRow B e 1 (.slice (some ⟨g,0,none⟩) n n) n xs):w.heap[g]?=some (.cells xs.toArray e (0,0)):=rX h
structure Kb(w w':World)(n rb pb:Nat):Prop where
 below:Below w.heap.size w w'
 rb0:w.heap.size≤rb
 pb0:w.heap.size≤pb
 ne:rb≠pb
 eU:w'.heap[rb]?=some (.cells #[.slice (some ⟨pb,0,none⟩) n n,I 0,I 0] 159 (0,0))
 places:w'.heap[pb]?=some (.cells (List.replicate n (I 0)).toArray 2 (0,0))
theorem wY(n:Nat)(hn:n≤64)(w:World):Calls prog 193 #[I n,.slice none 0 0] w fun e w'=>∃rb pb,e=.returned (.tuple #[.pointer (some ⟨rb,0,none⟩),I 0])∧Kb w w' n rb pb:=by
 obtain⟨i0,hi,fV,gF,gG⟩:=info_parts Sy;have h0:decide ((n:Int)<0)=false:=sX
 have h1:decide ((64:Int)<(n:Int))=false:=bi8
 go_enter func193,ntmps193;go_wp2_with (at_make;go_loud (refine wpList_make_full _ rfl _ _ 57 rfl w.heap.size 2 i0 (.int .i64 0) 1 underlying57 hi fV gF _ _ _ _ n rfl rfl rfl rfl bk6 bj4 cG ?_));intro w1 hown bX;have gq:Below w.heap.size w w1:=(fp _ _).grown bX cG bj7;rw[toList_madeCells_one]at hown;have AA:=ag (E7 hown);clear hown bX;go_wp2_with (with_reducible refine wpList_copy_nothing rfl (.tmp 28) (.tmp 29) 57 57 rfl 2 underlying57 kX _ _ _ _ _ _ rfl rfl sX ?_);go_ret2;have dD:w.heap.size<w1.heap.size:=(dh AA.out).1;refine⟨w1.heap.size,w.heap.size,rfl,gq.alloc gq.size _,gq.size,Nat.le_refl _,oX,dP w1 _,?_⟩;rw[gf w1 _ _ dD];exact AA.out
theorem CW(n:Nat)(hn:n≤64)(w:World):Calls prog 200 #[I n] w fun e w'=>∃rb pb,e=.returned (.tuple #[.pointer (some ⟨rb,0,none⟩),I 0])∧Kb w w' n rb pb:=by
 have HC:=ag (fun w=>wY n hn w);go_enter func200,ntmps200;go_wp2_with (go_at_call 193;refine(HC _).mono ?_;rintro e w' ⟨rb,pb,rfl,h⟩;have HR:=ag h;clear h);go_ret2;exact⟨rb,pb,rfl,HR⟩
theorem lN{fn:Func}{p:Tmp}{ty:TypeId}(h:fn.results=#[.cell p ty])(tmps:Array Value)(w:World)(b:Nat)(cs:Array Value)(t:TypeId)(fr:Nat×Nat)(hu:∃d,prog.underlying ty=some d∧(match d with| .struct _| .array _ _=>true|_=>false)=true)(hi:(prog.info? ty).map (·.size)=some cs.size)(hp:tmps.getD p undef=.pointer (some ⟨b,0,none⟩))(hg:w.heap[b]?=some (.cells cs t fr)):(results fn tmps).run prog w=.ok (.agg cs) w:=by
 exact aX6
theorem uV:∃d,prog.underlying 41=some d∧(match d with| .struct _| .array _ _=>true|_=>false)=true:=⟨_,underlying41,rfl⟩
theorem jB:(prog.info? 41).map (·.size)=some 12:=kX
theorem fY.rd{lo:Nat}{w0 w:World}{p:List (List cu)}{j:Nat}{aV:CK→Option Nat}{cap:CK→Nat}{c:CK→List Value}(H:fY lo w0 w p j 0 aV cap c){i:Nat}(hi:i<j)(hl:(p.getD i []).length≤9223372036854775807)(hI:∀o∈p.getD i [],pW o.ai∧pW o.ch∧pW o.n∧pW o.v∧o.cases.length≤9223372036854775807∧∀c∈o.cases,pW c.ch∧pW c.v){W:World}(hW:∀b,lo≤b→b<w.heap.size→W.heap[b]?=w.heap[b]?):kC W (UH (aV (some (.ops i)))) (p.getD i []):=by
 refine⟨hl,fun q o ho=>?_⟩;have mA:=H.rows i hi
 obtain⟨b,hb⟩:∃b,aV (some (.ops i))=some b:=by
  cases hb:aV (some (.ops i)) with
  |none=>
   have:=H.own.none_ _ hb;rw[mA]at this;rw[nu (f:=J6 aV cap i) (k:=6) (fun _ _=>rfl) dX this]at ho
   cases ho
  |some b=>exact⟨b,rfl⟩
 obtain⟨i1,i2,i3,i4,i5,i6⟩:=hI o (lf ho);have hWc:∀(k:CK) (b j:Nat) (v:Value),aV k=some b→w.cell? ⟨b,j,none⟩=some v→W.cell? ⟨b,j,none⟩=some v:=fun k b j v hb hv=>by rw[kZ (w:=w) (a:=⟨b,j,none⟩) (hW b (H.own.lies k b hb).1 (H.own.lt hb))];exact hv
 have cell:=fun t ht v hv=>hWc _ _ _ _ hb <| H.own.cell (k:=some (.ops i)) (j:=q*6+t) (v:=v) hb (by rw[mA];have:=fq (f:=J6 aV cap i) (k:=6) (fun _ _=>rfl) (p.getD i []) 0 q t o ho ht;rw[Nat.zero_add]at this;rw[this];exact hv)
 obtain⟨x,cx,hx,hxe⟩:∃x cx,nG (aV (some (.cases i q))) o.cases.length (cap (some (.cases i q)))=.slice x o.cases.length cx∧gW W x o.cases:=by
  have mP:=H.rU i q o (.inl hi) ho
  cases mz:aV (some (.cases i q)) with
  |none=>
   have:=H.own.none_ _ mz;rw[mP]at this;have h0:=nu (f:=fT) (k:=3) (fun _ _=>rfl) dX this;refine⟨none,0,by rw[h0];rfl,i5,fun k c hk=>?_⟩;rw[h0]at hk;cases hk
  |some b2=>
   refine⟨_,_,rfl,i5,fun k c hk=>⟨b2,0,rfl,?_⟩⟩;have c2:=fun t ht v hv=>hWc _ _ _ _ mz <| H.own.cell (k:=some (.cases i q)) (j:=k*3+t) (v:=v) mz (by rw[mP];have:=fq (f:=fT) (k:=3) (fun _ _=>rfl) o.cases 0 k t c hk ht;rw[this];exact hv)
   have:=i6 c (lf hk);simp only[Nat.zero_add];exact⟨c2 0 oX _ rfl,c2 1 oX _ rfl,c2 2 oX _ rfl,this.1,this.2⟩
 refine⟨b,0,x,cx,by rw[hb];rfl,?_⟩;simp only[Nat.zero_add];exact⟨cell 0 oX _ rfl,cell 1 oX _ rfl,cell 2 oX _ rfl,cell 3 oX _ rfl,cell 4 oX _ (by rw[←hx];rfl),cell 5 oX _ rfl,hxe,i1,i2,i3,i4⟩
theorem sq(k:Int)(w:World):Calls prog 75 #[I k] w (eL (.bool (il k)) fun w'=>w=w'):=by
 unfold il;by_cases h1:2≤k
 ·have e1:decide (2≤k)=true:=by simpa using h1
  go_enter func75,ntmps75;exact bd6
 ·have e1:decide (2≤k)=false:=by simpa using h1
  go_enter func75,ntmps75;exact bd6
theorem uc(k:Int)(w:World):Calls prog 76 #[I k] w (eL (.bool (kD k)) fun w'=>w=w'):=by
 unfold kD;by_cases h1:k=2
 ·subst h1;go_enter func76,ntmps76;go_wp2;go_ret;exact⟨sX,rfl⟩
 ·have e1:(k==2)=false:=by simpa using h1
  go_enter func76,ntmps76;go_wp2;go_ret;refine⟨?_,rfl⟩;by_cases h2:k=4<;>simp[h1,h2]
def mI(o:cu):Bool:=decide (1≤o.ai)&&decide (o.ai≤9)&&decide (0≤o.ch)&&decide (o.ch≤8)&&decide (0≤o.n)&&decide (o.n≤4)&&decide (0≤o.v)&&decide (o.v≤255)&&decide (o.cases.length≤6)
theorem DB(o:cu):yF o=(mI o&&(il o.ai||decide (o.ch=0))&&(kD o.ai||decide (o.v=0))&&(decide (o.ai=1)||decide (o.n=0))&&(decide (o.ai=9)||(!o.dG&&decide (o.cases.length=0)))&&o.cases.all qg):=rfl
theorem Bb(o:cu)(a:Option Addr)(c:Nat)(w:World)(n:Nat)(hn:n=o.cases.length)(hr:mI o=false):Calls prog 42 #[.agg #[I o.ai,I o.ch,I o.n,I o.v,.slice a n c,B o.dG]] w (eL (.bool (yF o)) (Below w.heap.size w)):=by
 have e:yF o=false:=by rw[DB,hr];rfl
 rw[e];have h:(((((((o.ai<1∨9<o.ai)∨o.ch<0)∨8<o.ch)∨o.n<0)∨4<o.n)∨o.v<0)∨255<o.v)∨6<(n:Int):=by unfold mI at hr;simp only[Bool.and_eq_false_iff,decide_eq_false_iff_not]at hr;omega
 clear hr hn e;go_enter func42,ntmps42;go_wp2_with fail
 all_goals first|(exfalso;omega)|(go_ret;exact⟨rfl,(fp _ _).alloc cG _⟩)
theorem Mk(o:cu)(hk:o.ai=9)(a:Option Addr)(c:Nat)(w:World)(h:gW w a o.cases)(n:Nat)(hn:n=o.cases.length)(hr:mI o=true)(hc:o.ch=0)(hv:o.v=0)(h0:o.n=0):Calls prog 42 #[.agg #[I o.ai,I o.ch,I o.n,I o.v,.slice a n c,B o.dG]] w (eL (.bool (yF o)) (Below w.heap.size w)):=by
 have e:yF o=o.cases.all qg:=by rw[DB,hr,hk,hc,hv,h0];simp
 rw[e,hk,hc,hv,h0];obtain⟨cs,fa⟩:=dC (o.cases);rw[←fa]at h hn ⊢;have hn6:n≤6:=by unfold mI at hr;simp at hr;rw[hn,fa];omega
 have hn7:decide (6<(n:Int))=false:=bi8
 obtain⟨H,HN⟩:=dA h hn;clear h hn hr hk hc hv h0 e fa;go_enter func42,ntmps42;go_wp2_with (first|(go_at_call 75;refine(sq _ _).mono ?_;rintro e w1 ⟨rfl,rfl⟩)|(go_at_call 76;refine(uc _ _).mono ?_;rintro e w1 ⟨rfl,rfl⟩));go_loopw [97] (fun q wr=>∃k:Nat,q=.int .i64 k∧k≤n∧Hid ((cs.take k).all qg=true)∧Hid (Below w.heap.size w wr)) (fun q _=>n-(intOf q).toNat)
 case atStart=>exact⟨0,rfl,oX,(by simp:(cs.take 0).all qg=true),(fp _ _).alloc cG _⟩
 case round=>
  obtain⟨k,rfl,hk,HA,HB⟩:=hrel;by_cases dD:k<n
  ·obtain⟨cc,mP⟩:∃cc,cs[k]?=some cc:=⟨_,fv bn0⟩;obtain⟨b,off,rfl,c0,c1,c2,c3⟩:=(H.out.below HB cG).2 k cc mP;have hm:cc∈cs:=lf mP;have tK:Hid (Below w.heap.size w (wr.alloc (.cells #[B cc.cF,I cc.ch,I cc.v] 52))):=HB.out.alloc HB.out.size _;by_cases hg:qg cc=true
   ·have nx:Hid ((cs.take (k+1)).all qg=true):=by
     show _=_;rw[List.take_succ,mP,List.all_append,HA.out];simp[hg]
    unfold qg at hg;obtain⟨cF,ch,v⟩:=cc;simp only[qs,decide_eq_true_eq,Bool.or_eq_true]at hg c0 c1 c2;obtain⟨⟨⟨⟨g1,g2⟩,g3⟩,g4⟩,g5⟩:=hg;clear c3 mP hm HA
    cases cF
    ·have g6:v=0:=(by simpa using g5);subst g6;exact ba6
    ·exact ba6
   ·have HF:Hid (cs.all qg=false):=by
     show _=_;rw[List.all_eq_false];exact⟨cc,hm,hg⟩
    unfold qg at hg;obtain⟨cF,ch,v⟩:=cc;simp only[qs,decide_eq_true_eq,Bool.or_eq_true]at hg c0 c1 c2;clear c3 mP hm HA
    cases cF
    ·go_wp2
     all_goals first
      |(go_ret;exact⟨by rw[HF.out];rfl,tK⟩)
      |(exfalso;simp at hg;rename_i hx _;simp at hx;omega)
      |(exfalso;simp at hg;rename_i hx;simp at hx;omega)
      |skip
    ·go_wp2
     all_goals first
      |(go_ret;exact⟨by rw[HF.out];rfl,tK⟩)
      |(exfalso;simp at hg;omega)
      |skip
  ·obtain rfl:k=n:=by omega
   have nx:Hid (cs.all qg=true):=(by have:=HA.out;rw[HN.out,List.take_length]at this;exact this);go_wp2;go_ret;exact⟨by rw[nx.out];rfl,HB⟩
section
variable(db:Nat)(a:Option Addr)(c:Nat)(w:World)(h0:w.cell? ⟨db,0,none⟩=some (.slice a 0 c))(h1:w.cell? ⟨db,1,none⟩=some (I 0))
include db a c w h0 h1
theorem JF:Calls prog 192 #[.pointer (some ⟨db,0,none⟩)] w (eL (I 0) fun w'=>∃n,w'=w.drewN n):=by
 go_enter func192,ntmps192;go_upto_region 1 with fail
 go_region
 all_goals
  go_wp2;go_ret;exact⟨rfl,_,rfl⟩
theorem JG(hf:w.frozen? ⟨db,1,none⟩=false):Calls prog 132 #[.pointer (some ⟨db,0,none⟩),I 0] w (ee fun w'=>∃n,w'=(w.drewN n).setCell ⟨db,1,none⟩ (I 0)):=by
 have HL:Hid (∀W:World,W.heap=w.heap→Calls prog 192 #[.pointer (some ⟨db,0,none⟩)] W fun e w'=>e=.returned (I 0)∧∃k,w'=W.drewN k):=fun W hW=>JF db a c W ((kZ (w:=w) (a:=⟨db,0,none⟩) (by rw[hW])).trans h0) ((kZ (w:=w) (a:=⟨db,1,none⟩) (by rw[hW])).trans h1)
 clear h0;go_enter func132,ntmps132;go_upto_region 1 with fail
 go_region_with (go_at_call 192;refine(HL _ ?_).mono ?_;rfl;rintro e wq ⟨rfl,kk,rfl⟩)
 all_goals
  go_wp2;go_end0;exact⟨rfl,_,rfl⟩
end
theorem JH(bb g:Nat)(a:Option Addr)(c:Nat)(w:World)(h0:w.cell? ⟨bb,0,none⟩=some (.slice a 2 c))(hg:g<2):Calls prog 85 #[.pointer (some ⟨bb,0,none⟩),I g] w (oV fun w'=>w=w'):=by
 go_enter func85,ntmps85;go_wp2;go_ret;exact⟨bi8,rfl⟩
theorem MZ(bb gb g:Nat)(c:Nat)(w:World)(h0:w.cell? ⟨bb,0,none⟩=some (.slice (some ⟨gb,0,none⟩) 2 c))(hg:g<2)(h1:w.cell? ⟨gb,g*2,none⟩=some (I 0))(h2:w.cell? ⟨gb,g*2+1,none⟩=some (B false))(hf:∀j,w.frozen? ⟨gb,j,none⟩=false):Calls prog 133 #[.pointer (some ⟨bb,0,none⟩),I g,I 0,.bool false] w (oV fun w'=>w'=(w.setCell ⟨gb,g*2,none⟩ (I 0)).setCell ⟨gb,g*2+1,none⟩ (B false)):=by
 have HT:=ag (JH bb g (some ⟨gb,0,none⟩) c w h0 hg);go_enter func133,ntmps133;go_wp2_with (go_at_call 85;refine HT.out.mono ?_;rintro e w2 ⟨rfl,rfl⟩);go_ret;exact⟨rfl,rfl⟩
end Go.Proofs.YtadifmnmfnihdaaGreat
