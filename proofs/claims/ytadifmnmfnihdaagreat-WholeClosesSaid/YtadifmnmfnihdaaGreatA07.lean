import Derived.Test.YtadifmnmfnihdaaGreatA02
import Derived.Test.YtadifmnmfnihdaaGreatA06
set_option linter.all false
set_option maxRecDepth 100000
set_option maxHeartbeats 40000000
namespace Go.Proofs.YtadifmnmfnihdaaGreat
open Go.RowKit Mach Go.Proofs.Tryz
structure CQ(p:List (List cu)):Prop where
 n:p.length≤100
 row:∀j,(p.getD j []).length≤100
 cs:∀j (k:Nat) (o:cu),(p.getD j [])[k]?=some o→o.cases.length≤100
theorem Oe:(prog.info? 49).map (fun i=>(i.zero,i.size,i.bytes))=some (some (.agg #[I 0,I 0,I 0,I 0,.slice none 0 0,B false]),6,64):=kX
theorem VQ:(prog.info? 50).map (fun i=>(i.zero,i.size,i.bytes))=some (some (.slice none 0 0),1,24):=kX
theorem tQ(p:List (List cu))(n:Nat)(hn:n=p.length)(a:Option Addr)(ca:Nat)(w:World)(h1:aH1 w a p)(hsm:CQ p):Calls prog 83 #[.slice a n ca] w fun e w'=>∃g cp aV cap c,e=.returned (.slice (some ⟨g,0,none⟩) n cp)∧fY w.heap.size w w' p n 0 aV cap c∧aV none=some g∧cap none=cp:=by
 have El:n≤100:=by rw[hn];exact hsm.n
 obtain⟨i0,hi,fV,gF,gG⟩:=info_parts VQ;obtain⟨i1,ki,JV,JW,JX⟩:=info_parts Oc;obtain⟨i2,li,lz0,lz1,lz2⟩:=info_parts Oe;have sN:∀W:World,(Instr.makeSlice 22 (I 0) (I n)).run prog W=.ok (.slice (some ⟨W.heap.size,0,none⟩) 0 n) (W.alloc (.cells (madeCells (Value.slice none 0 0).cells (n*i0.size)) 50)):=fun W=>av9 (P:=prog) 22 50 i0 _ underlying22 hi fV .i64 .i64 0 n (Nat.zero_le _) bk6 oX W
 rw[gF]at sN;have Hn:=ag hn;clear hn;have H1:=ag h1;clear h1;have HS:=ag hsm;clear hsm;go_enter func83,ntmps83;go_wp2
 have h0:Hid (∃aV cap c,fY w.heap.size w (w.alloc (.cells (madeCells #[Value.slice none 0 0] n) 50)) p 0 0 aV cap c∧aV none=some w.heap.size∧cap none=n):=by
  have O:=(cN.nil (κ:=CK) w.heap.size w cG Nl).add (r:=none) (b:=w.heap.size) (cp:=n) (xs:=[]) (w':=w.alloc (.cells (madeCells #[Value.slice none 0 0] n) 50)) ((fp _ _).alloc cG _) cG
   ⟨_,_,dP _ _,Nat.zero_le _,rfl,fun q hq=>by simp[Nl]at hq;subst hq;exact⟨rfl,by simp[size_madeCells],bj4⟩⟩
  refine⟨_,_,_,⟨O,?_,fun i h=>oX,?_,fun i q o h=>oX,fun i h=>aD _ _ sX,fun i q h=>aD _ _ sX,fun _=>aD _ _ sX,fun i q h=>aD _ _ sX⟩,bq _ _ _,bq _ _ _⟩
  ·rw[bq];rfl
  ·rw[aD _ _ sX,aW1];rfl
 clear sN;go_loopw [3,14] (fun out i wr=>∃j og oc:Nat,i=.int .i64 j∧out=.slice (some ⟨og,0,none⟩) j oc∧j≤n∧Hid (∃aV cap c,fY w.heap.size w wr p j 0 aV cap c∧aV none=some og∧cap none=oc)) (fun _ i _=>n-(intOf i).toNat)
 case atStart=>exact⟨0,w.heap.size,n,rfl,rfl,oX,h0⟩
 case round=>
  clear h0;obtain⟨j,og,oc,rfl,rfl,hj,HC⟩:=hrel;by_cases dD:j<n
  ·have hBw:Below w.heap.size w wr:=by obtain⟨aV,cap,c,h1,_⟩:=HC.out;exact h1.own.below
   obtain⟨os,No⟩:∃os,p[j]?=some os:=⟨_,fv bk8⟩;obtain⟨b1,o1,r1,c1,rfl,oF,rS⟩:=H1.out.2 j os No;have oF:=cw hBw cG _ _ oF;have nX:p.getD j []=os:=(by rw[yk,No];rfl);obtain⟨m,hm⟩:=dC (os.length);rw[←hm]at oF;have YL:m≤100:=(by rw[hm,←nX];exact HS.out.row j);obtain⟨HO,HM,ie⟩:=ij rS hm nX;have jf:Hid (∃aV cap c,fY w.heap.size w wr p j 0 aV cap c∧aV none=some og∧cap none=oc∧Value.slice none 0 0=nG (aV (some (.ops j))) 0 (cap (some (.ops j)))):=(by obtain⟨aV,cap,c,h1,h2,h3⟩:=HC.out;exact⟨aV,cap,c,h1,h2,h3,by rw[h1.YP rfl];rfl⟩);clear hBw rS hm No nX HC;obtain⟨wo,VB⟩:=dC (wr);subst VB;go_wp2;go_loopw [6,20] (fun row i VC=>∃(k:Nat) (ra:Option Addr) (rc:Nat),i=.int .i64 k∧row=.slice ra k rc∧k≤m∧Hid (∃aV cap c,fY w.heap.size w VC p j k aV cap c∧aV none=some og∧cap none=oc∧Value.slice ra k rc=nG (aV (some (.ops j))) k (cap (some (.ops j))))) (fun _ i _=>m-(intOf i).toNat)
   case atStart=>exact⟨0,none,0,rfl,rfl,oX,jf⟩
   case round=>
    clear jf oF;obtain⟨k,ra,rc,rfl,rfl,hk,HR⟩:=hrel;by_cases rT:k<m
    ·obtain⟨aV,cap,c,hC,YZ⟩:=HR.out;obtain⟨o,ho⟩:∃o,os[k]?=some o:=⟨_,fv bn2⟩;obtain⟨b2,o2,x,cx,rfl,e0,e1,e2,e3,e4,e5,fa,_⟩:=(HO.out.below hC.own.below cG).2 k o ho;have Y0:o.cases.length≤100:=HS.out.cs j k o (by rw[ie.out];exact ho);obtain⟨zk,hzk⟩:∃z,z=o.ai:=⟨_,rfl⟩;obtain⟨zc,hzc⟩:∃z,z=o.ch:=⟨_,rfl⟩;obtain⟨zn,hzn⟩:∃z,z=o.n:=⟨_,rfl⟩;obtain⟨zv,hzv⟩:∃z,z=o.v:=⟨_,rfl⟩;obtain⟨ze,hze⟩:∃z,z=o.dG:=⟨_,rfl⟩;obtain⟨q,hq⟩:=dC (o.cases.length);obtain⟨cs,gE⟩:=dC (bT fT 0 o.cases);rw[←hzk]at e0;rw[←hzc]at e1;rw[←hzn]at e2;rw[←hzv]at e3;rw[←hq]at e4;rw[←hze]at e5;rw[←hq]at Y0;have J9:Hid (∀ob,0<q→∃b off,x=some ⟨b,off,none⟩∧∀j u,cs[j]?=some u→(wr.alloc ob).cell? ⟨b,off+j,none⟩=some u):=fun ob h0=>by rw[hq]at h0;obtain⟨b,off,e,h⟩:=fa.cells h0;refine⟨b,off,e,fun j u hu=>?_⟩;rw[gE]at hu;rw[World.cell?_alloc_lt _ _ _ (xo _ _ (h j u hu))];exact h j u hu
     have HL:Hid (cs.length=q*3):=(by show _=_;rw[gE,hq];exact aV9 (f:=fT) (k:=3) (fun _ _=>rfl) _ _);have XF:Hid (∀u∈cs,u.oneCell'=true):=(by rw[gE];exact vU _ _);have HEQ:=ag (dO hzk (dO hzc (dO hzn (dO hzv (dO hze (dO hq (dO gE ho)))))));clear hC YZ fa hzk hzc hzn hzv hze hq gE ho;go_wp2_with (at_builtin;go_loud (refine gu rfl _ _ 47 rfl underlying47 ki JV JW JX rfl dX dX rfl x q cx rfl cs HL (J9 _) XF oX ?_));intro hb lK w2 EU rj;obtain⟨bn,Hy⟩:=dC (wr.heap.size);have xy:w2.heap[bn]?=some (.cells #[I zk,I zc,I zn,I zv,.slice x q cx,B ze] 49 (0,0)):=(by rw[EU.block bn (by rw[Hy];simp) sX,Hy];exact dP _ _);have x0:w2.cell? ⟨bn,0,none⟩=some (I zk):=bm9;have x1:w2.cell? ⟨bn,1,none⟩=some (I zc):=bm9;have x2:w2.cell? ⟨bn,2,none⟩=some (I zn):=bm9;have x3:w2.cell? ⟨bn,3,none⟩=some (I zv):=bm9;have x4:w2.cell? ⟨bn,4,none⟩=some (.slice x q cx):=bm9;have x5:w2.cell? ⟨bn,5,none⟩=some (B ze):=bm9;have xf:=iM w2 bn 4 _ _ xy;have Y6:bn<w2.heap.size:=(dh xy).1
     have hBl:Below wr.heap.size wr (w2.setCell ⟨bn,4,none⟩ (Value.slice hb q lK)):=
      (((fp wr.heap.size wr).alloc cG _).grown EU sX bj7).setCell (by rw[Hy];exact Nat.le_refl _) _
     rw[←Hy]at rj ⊢;obtain⟨HBL,HBN,LD⟩:=ij hBl Hy rj;have hO2:=rj;obtain⟨aV,cap,c,hC,Y7,hg0,mA⟩:=HR.out;have hown:=(hC.own.eC hBl).owns (k:=some (.ops j)) (p:=(49,6)) rfl dX (n:=k) (by rw[hC.row,ie.out,aV9 (f:=J6 aV cap j) (k:=6) (fun _ _=>rfl),tC];have:=fm HEQ.out.2.2.2.2.2.2.2;omega);rw[←mA]at hown;have qq:w.heap.size≤(w2.setCell ⟨bn,4,none⟩ (Value.slice hb q lK)).heap.size:=(hC.own.eC hBl).tL;have nv:Hid ((w2.setCell ⟨bn,4,none⟩ (Value.slice hb q lK)).ownsRow w.heap.size 49 6 (.slice ra k rc) k (c (some (.ops j)))):=hown;have HC:=ag (show ∃aV cap c',fY w.heap.size w wr p j k aV cap c'∧aV none=some og∧cap none=oc∧Value.slice ra k rc=nG (aV (some (.ops j))) k (cap (some (.ops j)))∧c (some (.ops j))=c' (some (.ops j))from⟨aV,cap,c,hC,Y7,hg0,mA,rfl⟩);clear hBl Hy rj hO2 hC Y7 hg0 mA hown HR EU xy;go_wp2_with (at_builtin;go_loud (refine od (us:=#[I zk,I zc,I zn,I zv,Value.slice hb q lK,B ze]) (w2:=w2.setCell ⟨bn,4,none⟩ (Value.slice hb q lK)) rfl (.tmp 28) (.tmp 30) 50 rfl underlying50 li lz0 lz1 lz2 rfl dX dX rfl rfl bi9 (.slice ra k rc) k _ rfl nv w2.heap.size bp1 rfl oX qq ?_));intro g cp w3 ah8 hgr gp
     have hN:Hid (∃aV cap c,fY w.heap.size w w3 p j (k+1) aV cap c∧aV none=some og∧cap none=oc∧Value.slice (some ⟨g,0,none⟩) (k+1) cp=nG (aV (some (.ops j))) (k+1) (cap (some (.ops j)))):=by
      obtain⟨aV,cap,c',hC,gq,mz,mA,mP⟩:=HC.out;obtain⟨q1,q2,q3,q4,q5,q6,q7,q8⟩:=HEQ.out;have jz:(Value.slice ra k rc).ownBlock=aV (some (.ops j)):=(by rw[mA,gV]);rw[jz]at hgr gp;rw[mP]at ah8
      have gE:Value.slice hb q lK=nG (hb.map (·.block)) o.cases.length lK:=by
       rcases LD.out with⟨h1,h2,h3⟩|⟨h1,h2⟩
       ·subst h1 h2 h3;rfl
       ·subst h1;rw[q6];rfl
      have fa:hb.map (·.block)=none∧o.cases=[]∨∃b,hb.map (·.block)=some b∧wr.heap.size≤b∧gl ((w2.setCell ⟨bn,4,none⟩ (Value.slice hb q lK)).alloc (.cells #[I zk,I zc,I zn,I zv,Value.slice hb q lK,B ze] 49)) b none lK (bT fT 0 o.cases):=by
       rcases LD.out with⟨h1,h2,h3⟩|⟨h1,h2⟩
       ·subst h1;exact .inl ⟨rfl,xn oX⟩
       ·subst h1;refine .inr ⟨bn+1,rfl,by rw[HBN.out];omega,?_⟩;obtain⟨_,hl⟩:=gl.kg (ty:=none) (p:=(52,3)) (fun q h=>bk0) h2;rw[←q7];have h1:w2.heap.size=(w2.setCell ⟨bn,4,none⟩ (Value.slice (some ⟨bn+1,0,none⟩) q lK)).heap.size:=bp1;exact(hl.other (fQ _ _ _ _ sX)).other (gf _ _ _ (by rw[←h1];exact hl.lt))
      obtain⟨tM,pF,c2,r1,r2,r3,r4,r5⟩:=hC.op (o:=o) (hb:=hb.map (·.block)) (hc:=lK) (w2:=(w2.setCell ⟨bn,4,none⟩ (Value.slice hb q lK)).alloc (.cells #[I zk,I zc,I zn,I zv,Value.slice hb q lK,B ze] 49)) (w3:=w3) (g:=g) (cp:=cp)
       (by rw[ie.out];exact q8) (HBL.out.alloc (by have:=HBL.out.size;omega) _) fa hgr (by
        rcases gp with h|h
        ·exact .inl h
        ·right;simpa[World.setCell]using h) (by rw[←gE,←q1,←q2,←q3,←q4,←q5];simpa using ah8)
      exact⟨tM,pF,c2,r1,r4.trans gq,r5.trans mz,by rw[r2,r3];rfl⟩
     clear HC nv ah8 hgr gp LD HBL J9 HL XF qq x0 x1 x2 x3 x4 x5 xf Y6 e0 e1 e2 e3 e4 e5;go_wp2;go_roundw
     case rel=>exact⟨k+1,_,_,bl2,rfl,oX,hN⟩
     case measure=>simp[intOf];omega
    ·obtain rfl:k=m:=by omega
     obtain⟨aV,cap,c,hC,gq,mz,mA⟩:=HR.out;have hown:wr.ownsRow w.heap.size 50 1 (.slice (some ⟨og,0,none⟩) j oc) j (c none):=(by have:=hC.own.owns (k:=none) (p:=(50,1)) rfl dX (n:=j) (by rw[hC.out];simp);rw[gq,mz]at this;exact this);have qq:=hC.own.tL;have nv:=ag hown;have HC:=ag (show ∃aV cap c',fY w.heap.size w wr p j k aV cap c'∧aV none=some og∧cap none=oc∧Value.slice ra k rc=nG (aV (some (.ops j))) k (cap (some (.ops j)))∧c none=c' none from⟨aV,cap,c,hC,gq,mz,mA,rfl⟩);clear HR hC gq mz mA hown;go_wp2_with (at_builtin;go_loud (refine od (us:=#[Value.slice ra k rc]) (w2:=wr) rfl (.tmp 33) (.tmp 35) 22 rfl underlying22 hi fV gF gG rfl dX dX rfl rfl bi9 (.slice (some ⟨og,0,none⟩) j oc) j _ rfl nv wr.heap.size rfl rfl oX qq ?_));intro g cp w3 ah8 hgr gp
     have hN:Hid (∃aV cap c,fY w.heap.size w w3 p (j+1) 0 aV cap c∧aV none=some g∧cap none=cp):=by
      obtain⟨aV,cap,c',hC,gq,mz,mA,mP⟩:=HC.out;rw[mP,mA]at ah8;have hk:(p.getD j []).length=k:=(by rw[ie.out];exact HM.out.symm);have YQ:=hC;have hC3:fY w.heap.size w (wr.alloc (.cells #[Value.slice ra k rc] 50)) p j k aV cap c':={hC with own:=hC.own.alloc _}
      obtain⟨tM,pF,c2,r1,r2,r3⟩:=hC3.next hk (by rw[gq];exact hgr) (by
       rcases gp with h|h
       ·left;rw[gq];exact h
       ·right;simpa using h) ah8
      exact⟨tM,pF,c2,r1,r2,r3⟩
     clear HC nv ah8 hgr gp;go_wp2;go_roundw
     case rel=>exact⟨j+1,_,_,bl2,rfl,oX,hN⟩
     case measure=>simp[intOf];omega
  ·obtain rfl:j=n:=by omega
   go_wp2;go_ret;obtain⟨aV,cap,c,hC,gq,mz⟩:=HC.out;exact⟨_,_,aV,cap,c,rfl,hC,gq,mz⟩
namespace V
section
variable{q:bf}{ls:List (List Nat)}
section
variable(Q:xQ q ls){k x:Nat}{a b:List Nat}(h:ls[k]?=some (a++x::b))
include Q h
theorem xQ.CH(q':bf)(h1:q'.bM=q.bM.set k {first:=BC (a++b),last:=CD (a++b),count:=((a++b).length:Int)})(h2:q'.aS.length=q.aS.length)(h3:q'.aS[x]?=some {})(h4:∀c y,a=c++[y]→q'.aS[y]?=some {pX:=k,behind:=BC b,ahead:=CD c})(h5:∀y d,b=y::d→q'.aS[y]?=some {pX:=k,behind:=BC d,ahead:=CD a})(h6:∀y,y≠x→(∀c,a≠c++[y])→(∀d,b≠y::d)→q'.aS[y]?=q.aS[y]?):xQ q' (ls.set k (a++b)):=by
 have fX:=Q.nodup k _ h;have vA:k<q.bM.length:=(uC (Q.line k _ h)).1;have YF:x ∉ a:=fun hm=>by rw[tB]at fX;exact fX.2.2 x hm x sX rfl
 have hxb:x ∉ b:=fun hm=>by rw[tB]at fX;exact(List.nodup_cons.1 fX.2.1).1 hm
 have G3:∀y,y∈a→y∈b→False:=fun y hy uO=>bu4
 have hna:a.Nodup:=by rw[tB]at fX;exact fX.1
 have EI:b.Nodup:=by rw[tB]at fX;exact(List.nodup_cons.1 fX.2.1).2
 refine⟨by rw[h1];simp[Q.len],?_,?_,?_,?_⟩
 ·intro k' l' h';rcases rP h h' with⟨rfl,rfl⟩|⟨cM,h'⟩
  ·rw[h1,nH vA]
  ·rw[h1,oA (dE cM)];exact Q.line k' l' h'
 ·intro k' a' b' y h';rcases rP h h' with⟨rfl,e⟩|⟨cM,h'⟩
  ·rcases List.append_eq_append_iff.1 e with⟨c,e1,e2⟩|⟨c,e1,e2⟩
   ·cases c with
    |nil=>
     simp only[List.nil_append,List.append_nil]at e1 e2;subst e1;rw[h5 y b' e2.symm]
    |cons z c=>
     simp only[sY,List.cons.injEq]at e2;obtain⟨rfl,rfl⟩:=e2;subst e1;rcases ym c with rfl|⟨c',u,rfl⟩
     ·rw[h4 a' y rfl];simp
     ·rw[yn]at*;rw[h6 y (fun e=>YF (by rw[←e];simp)) (fun d hd=>?_) (fun d hd=>G3 y sX (by rw[hd];simp)),Q.thing k' a' (c'++[u]++x::b) y br7]
      ·rw[nY (c'++[u]),nY (c'++[u])];simp
      ·rw[←sY,←List.append_assoc]at hd;obtain⟨_,e5⟩:=List.append_inj' hd sX;simp only[List.cons.injEq,and_true]at e5;subst e5;simp[tB]at hna
   ·subst e1;rcases ym c with rfl|⟨c',u,rfl⟩
    ·simp only[List.nil_append,List.append_nil]at e2 ⊢;rw[h5 y b' e2]
    ·rw[yn]at*;have Vx:y∈b:=(by rw[e2];simp);rw[h6 y (fun e=>hxb (e▸Vx)) (fun d hd=>G3 y (by rw[hd];simp) Vx) (fun d hd=>?_),Q.thing k' (a++x::(c'++[u])) b' y (by rw[h,e2];simp)]
     ·rw[xP a (c'++[u]),show a++x::(c'++[u])=(a++x::c')++[u]by simp,jx,jx];simp
     ·rw[hd]at e2
      cases c' with
      |nil=>
       simp only[List.nil_append,sY,List.cons.injEq]at e2;rw[hd,e2.2]at EI;simp at EI
      |cons v c'=>
       simp only[sY,List.cons.injEq]at e2;rw[hd,e2.2]at EI;simp at EI
  ·have hy:y∈a'++y::b':=by simp
   rw[h6 y (fun e=>cM (Q.inj h' hy h bp0)) (fun d hd=>cM (Q.inj h' hy h (by rw[hd];simp))) (fun d hd=>cM (Q.inj h' hy h (by rw[hd];simp)))];exact Q.thing k' a' b' y h'
 ·intro y t' NU Vw;by_cases hy:y=x
  ·subst hy;rw[h3]at NU;cases NU;rfl
  have NV:=Vw k _ (yB h _);rw[h6 y hy (fun c hc=>NV (by rw[hc];simp)) (fun c hc=>NV (by rw[hc];simp))]at NU;refine Q.out y t' NU fun k' l' h' hm=>?_
  by_cases hk:k'=k
  ·subst hk;rw[h]at h'
   cases h';simp only[List.mem_append,iL]at hm NV;rcases hm with hm|hm|hm
   ·exact NV (.inl hm)
   ·exact hy hm
   ·exact NV (.inr hm)
  ·exact Vw k' l' (by rw[oA (dE hk)];exact h') hm
 ·intro k' l' h';rcases rP h h' with⟨rfl,rfl⟩|⟨cM,h'⟩
  ·rw[tB];exact⟨hna,EI,fun u hu v hv e=>G3 u hu (e▸hv)⟩
  ·exact Q.nodup k' l' h'
theorem xQ.ai3(hb:q.aS.length≤1000):∃q',q.out x {pX:=k,behind:=BC b,ahead:=CD a}=some q'∧xQ q' (ls.set k (a++b))∧q'.aS.length=q.aS.length:=by
 have fX:=Q.nodup k _ h;have hl:=Q.line k _ h;have hs:=Q.small h;have vI:x<q.aS.length:=Q.lt h sX;have vA:k<q.bM.length:=cA hl;have eK:kJ ((a++x::b).length:Int)=true:=by unfold kJ;simp only[qs,decide_eq_true_eq];omega
 have YF:x ∉ a:=fun hm=>by rw[tB]at fX;exact fX.2.2 x hm x sX rfl
 have hxb:x ∉ b:=fun hm=>by rw[tB]at fX;exact(List.nodup_cons.1 fX.2.1).1 hm
 have G3:∀y,y∈a→y∈b→False:=fun y hy uO=>bu4
 obtain⟨tx,htx⟩:∃t,q.aS[x]?=some t:=⟨_,fv vI⟩;unfold bf.out;simp only[nat?,Int.natCast_nonneg,dt,oU,bW,eN,hl,eK,aH6,dF];have Hs:((a++x::b).length:Int)-1=((a++b).length:Int):=bi8
 rcases ym a with rfl|⟨a0,y,rfl⟩
 ·rw[aF CF]
  cases b with
  |nil=>
   simp only[eN,aF CE];refine⟨_,rfl,Q.CH h _ ?_ bm0 ?_ ?_ ?_ ?_,bm0⟩
   ·simp only[bf.fJ,bf.fe];rw[Hs];rfl
   ·simp only[bf.fJ,bf.fe];rw[nH (by exact vI)]
   ·intro c y e;simp at e
   ·intro y d e;cases e
   ·intro y hy _ _;simp only[bf.fJ,bf.fe];rw[oA (dE hy)]
  |cons z b=>
   have hz:¬BC (z::b)= -1:=(by rw[lF];omega);have Sk:=Q.thing k [x] b z br7;have YG:z≠x:=fun e=>hxb bp0
   simp only[eN,aE hz];simp only[lF,Int.natCast_nonneg,dt,oU,eN,Sk,aE YG];refine⟨_,rfl,Q.CH h _ ?_ bm0 ?_ ?_ ?_ ?_,bm0⟩
   ·simp only[bf.fJ,bf.fe];rw[Hs];simp only[List.nil_append,lF];rw[show x::z::b=[x]++(z::b)from rfl,xP];simp
   ·simp only[bf.fJ,bf.fe];rw[nH (by simpa using vI)]
   ·intro c y e;simp at e
   ·intro y d e;cases e;simp only[bf.fJ,bf.fe];rw[oA (dE YG),AE Sk,aF rfl]
   ·intro y hy _ h2;have hyz:y≠z:=fun e=>h2 b bt7
    simp only[bf.fJ,bf.fe];rw[oA (dE hy),oA (dE hyz)]
 ·rw[yn]at*;have NW:¬CD (a0++[y])= -1:=by rw[jx];omega
  have nI:=Q.thing k a0 (x::b) y br7;have Nd:y≠x:=fun e=>YF bp0
  rw[aE NW];simp only[jx,Int.natCast_nonneg,dt,oU,eN,nI,aE Nd]
  cases b with
  |nil=>
   simp only[eN,aF CE];refine⟨_,rfl,Q.CH h _ ?_ bm0 ?_ ?_ ?_ ?_,bm0⟩
   ·simp only[bf.fJ,bf.fe];rw[Hs];simp only[List.append_nil,jx];rw[nY (a0++[y])];simp
   ·simp only[bf.fJ,bf.fe];rw[nH (by simpa using vI)]
   ·intro c u e;obtain⟨rfl,e2⟩:=List.append_inj' e sX;simp only[List.cons.injEq,and_true]at e2;subst e2;simp only[bf.fJ,bf.fe];rw[oA (dE Nd),AE nI,aF rfl]
   ·intro y d e;cases e
   ·intro u hu h1 _;have YE:u≠y:=fun e=>h1 a0 bt7
    simp only[bf.fJ,bf.fe];rw[oA (dE hu),oA (dE YE)]
  |cons z b=>
   have hz:¬BC (z::b)= -1:=(by rw[lF];omega);have YG:z≠x:=fun e=>hxb bp0
   have hzy:z≠y:=fun e=>G3 z bp0 sX
   have Sk:=Q.thing k (a0++[y]++[x]) b z br7;have Vy:(q.aS.set y {pX:=(k:Int),behind:=BC (z::b),ahead:=CD a0})[z]?=some {pX:=(k:Int),behind:=BC b,ahead:=CD (a0++[y]++[x])}:=(by rw[AE Sk,aE (dE hzy)]);simp only[eN,aE hz];simp only[lF,Int.natCast_nonneg,dt,oU,eN,bf.fJ]at Vy ⊢;simp only[Vy,eN,aE YG];refine⟨_,rfl,Q.CH h _ ?_ (by simp[bf.fe]) ?_ ?_ ?_ ?_,by simp[bf.fe]⟩
   ·simp only[bf.fe];rw[Hs];congr 2
    ·rw[nY (a0++[y]),nY (a0++[y])];simp
    ·rw[show a0++[y]++x::z::b=(a0++[y]++[x])++z::b by simp,xP (a0++[y]++[x]),xP (a0++[y]) (z::b)];simp
   ·simp only[bf.fe];rw[nH (by simpa using vI)]
   ·intro c u e;obtain⟨rfl,e2⟩:=List.append_inj' e sX;simp only[List.cons.injEq,and_true]at e2;subst e2;simp only[bf.fe];rw[oA (dE Nd),oA hzy,AE nI,aF rfl,lF]
   ·intro u d e
    cases e;simp only[bf.fe];rw[oA (dE YG),AE Vy,aF rfl,jx]
   ·intro u hu h1 h2;have YE:u≠y:=fun e=>h1 a0 bt7
    have huz:u≠z:=fun e=>h2 b bt7
    simp only[bf.fe];rw[oA (dE hu),oA (dE huz),oA (dE YE)]
end
def iA(ls:List (List Nat))(x:Nat):List (List Nat):=ls.map (·.erase x)
theorem Lg{a b:List Nat}{x:Nat}(h:x ∉ a):(a++x::b).erase x=a++b:=by
 induction a with
 |nil=>simp
 |cons y a ih=>
  simp only[iL,not_or]at h;rw[sY,List.erase_cons_tail (by simpa using dE h.1),ih h.2,sY]
theorem xQ.drop(Q:xQ q ls){x:Nat}(hx:x<q.aS.length)(hb:q.aS.length≤1000):∃q' ok,q.drop x=some (q',ok)∧xQ q' (iA ls x)∧q'.aS.length=q.aS.length:=by
 obtain⟨t,ht⟩:∃t,q.aS[x]?=some t:=⟨_,fv hx⟩;unfold bf.drop idx;simp only[Int.natCast_nonneg,dt,oU,ht];by_cases kL:∃(k:Nat) (l:List Nat),ls[k]?=some l∧x∈l
 ·obtain⟨k,l,h,hm⟩:=kL;obtain⟨a,b,rfl⟩:=List.append_of_mem hm;have e:=Q.thing k a b x h;rw[ht]at e
  cases e;have h1:¬((k:Int)= -1):=oX
  simp only[aE h1];obtain⟨q',h2,h3,h4⟩:=Q.ai3 h hb;rw[h2];refine⟨q',true,rfl,?_,h4⟩;have YF:x ∉ a:=fun hm=>by have:=Q.nodup k _ h;rw[tB]at this;exact this.2.2 x hm x sX rfl
  have e2:iA ls x=ls.set k (a++b):=by
   apply List.ext_getElem?;intro i;unfold iA;rw[na];by_cases hi:i=k
   ·subst hi;rw[h,nH (cA h)];simp[Lg YF]
   ·rw[oA (dE hi)]
    cases hl:ls[i]? with
    |none=>rfl
    |some l'=>
     have:x ∉ l':=fun Ht=>hi (Q.inj hl Ht h sX)
     simp[List.erase_of_not_mem this]
  rw[e2];exact h3
 ·have YH:∀(k:Nat) (l:List Nat),ls[k]?=some l→x ∉ l:=fun k l h hm=>kL ⟨k,l,h,hm⟩
  have e:=Q.out x t ht YH;subst e;refine⟨q,false,rfl,?_,rfl⟩
  have e2:iA ls x=ls:=by
   apply List.ext_getElem?;intro i;unfold iA;rw[na]
   cases hl:ls[i]? with
   |none=>rfl
   |some l'=>simp[List.erase_of_not_mem (YH i l' hl)]
  rw[e2];exact Q
end
def aP(x:bI):cu:=(idx x.ops x.at_).getD {}
theorem qd{w:Wd}{g:Nat}{x:bI}(h:w.gs[g]?=some x):dH w g=aP x:=by unfold dH aP;rw[h];rfl
structure Vz(o:cu):Prop where
 k:1≤o.ai∧o.ai≤9
 ch:0≤o.ch∧o.ch≤8
 n:0≤o.n∧o.n≤4
 cl:o.cases.length≤6
 cs:∀c∈o.cases,0≤c.ch∧c.ch≤8
def aW(x:bI):Prop:=
 (aP x).ai≠9∧(x.ae=12∨x.ae=13∨x.ae=14)∨(aP x).ai=9∧(x.ae=29∨x.ae=30∧x.res.aJ=0∨x.ae=13∨x.ae=14)
def aT(x:bI):Prop:=x.ae=8∨x.ae=27
def bm(x:bI):Prop:=x.ae=7∨x.ae=26∨x.ae=23
def bC(x:bI):Nat:=
 if x.ae=24∨x.ae=30∨x.ae=31∨x.ae=33 then x.k.toNat
 else if 25≤x.ae∧x.ae≤29∨x.ae=32 then x.aq.length else 0
def cH(x:bI):Prop:=5≤x.ae∧x.ae≤12∨x.ae=16∨21≤x.ae∧x.ae≤23
def aL(x:bI)(c:Int):Prop:=if(aP x).ai=9 then c∈x.aq.take (bC x)else cH x∧c=(aP x).ch
def cV(o:cu)(C:Nat)(x:bI):Prop:=
 (x.res.aJ=1∨x.res.aJ=3)∧x.fire=x.res.case∧0≤x.res.case∧(∃c,o.cases[x.res.case.toNat]?=some c∧1≤c.ch∧c.ch≤C∧(x.res.aJ=3→c.cF=true))∨
 x.res.aJ=2∧o.dG=true∧x.res.case= -1∨x.res.aJ=6∧o.dG=false∧x.point=0
structure Clean(x:bI):Prop where
 aN:x.aN= -1
 bY:x.bY= -1
 wakes:x.wakes=[]
 bA:x.bA=[]
 bk:x.bk=false
 fire:x.fire= -1
 case:x.res.case= -1
 aJ:x.res.aJ=0
 point:x.point=0
 bJ:x.bJ=0
structure gU(C:Nat)(x:bI):Prop where
 ne:x.aH≠[]
 ord:∀i∈x.aH,0≤i∧∃c,(aP x).cases[i.toNat]?=some c∧1≤c.ch∧c.ch≤C∧c.ch∈x.aq
 nd:x.aH.Nodup
 len:x.aH.length≤6
 lk:∀l∈x.aq,1≤l∧l≤C
 BD:x.aq.Pairwise (· <·)
 Ei:x.aq≠[]
def bG(k p:Int):Bool:=
 if p=0∨p=18 then 1≤k&&k≤9
 else if p=1∨p=2 then k=4||k=5
 else if p=3 then k=5
 else if p=4∨p=16 then 2≤k&&k≤6
 else if p=5∨p=6∨p=7∨p=8∨p=9 then 2≤k&&k≤5
 else if p=10∨p=11∨p=12∨p=15 then k=2||k=3
 else if p=13∨p=14∨p=19 then k=2||k=3||k=9
 else if p=17 then 2≤k&&k≤6||k=9
 else if p=20 then k=1||k=7||k=8
 else if p=21∨p=22∨p=23 then k=6
 else if 24≤p∧p≤34 then k=9
 else false
def Ej(x:bI):Prop:=
 (x.ae=24∨x.ae=31→0≤x.k∧x.k<x.aq.length)∧(x.ae=30∨x.ae=33→1≤x.k∧x.k≤x.aq.length)∧
 (x.ae=25∨x.ae=26∨x.ae=27∨x.ae=28∨x.ae=29∨x.ae=32∨x.ae=34→0≤x.k∧x.k<x.aH.length)
structure nm(x:bI):Prop where
 none_:x.ae=24∨x.ae=25∨x.ae=26∨x.ae=27∨(x.ae=30∧(x.res.aJ=1∨x.res.aJ=2∨x.res.aJ=3))→x.bA=[]
 len:¬(x.ae=24∨x.ae=25∨x.ae=26∨x.ae=27∨(x.ae=30∧(x.res.aJ=1∨x.res.aJ=2∨x.res.aJ=3)))→x.bA.length=(aP x).cases.length
 own:∀(i:Nat) s,x.bA[i]?=some s→s≠ -1→0≤s∧(i:Int)∈x.aH
 all:x.ae=29∨(x.ae=30∧x.res.aJ=0)∨x.ae=13∨x.ae=14∨x.ae=31∨x.ae=32∨x.ae=33→∀i∈x.aH,∃s,x.bA[i.toNat]?=some s∧0≤s
 back:x.ae=34→∀(j:Nat) i,(j:Int)<x.k→x.aH[j]?=some i→x.bA[i.toNat]?=some (-1)
 more:x.ae=28→∀(j:Nat) i,x.k≤j→x.aH[j]?=some i→x.bA[i.toNat]?=some (-1)
 less:x.ae=28→∀(j:Nat) i,(j:Int)<x.k→x.aH[j]?=some i→∃s,x.bA[i.toNat]?=some s∧0≤s
structure Loc(C:Nat)(x:bI):Prop where
 JY:0≤x.at_∧x.at_≤x.ops.length∧x.ops.length≤16
 ops:∀o∈x.ops,Vz o
 Uy:x.ae≠0→x.at_<x.ops.length
 kp:x.ae≠0→bG (aP x).ai x.ae=true
 pl:0≤x.ae∧x.ae≤34
 begin:x.ae=0→Clean x
 cZ:(aP x).ai≠9→x.ae≠0→x.ae≠18→x.ae≠19→x.ae≠20→1≤(aP x).ch∧(aP x).ch≤C
 oW:(aP x).ai=9→x.ae≠0→x.ae≠17→x.ae≠18→x.ae≠19→gU C x∧Ej x∧nm x
 ready:x.ae=17→x.wakes≠[]
 uP:x.ae≠16→x.ae≠17→x.ae≠22→x.ae≠23→¬(x.ae=30∧x.res.aJ=1)→x.wakes=[]
 bY:(aP x).ai≠9→(x.ae=11∨x.ae=12∨x.ae=13∨x.ae=14∨x.ae=15)→0≤x.bY
 tI:(aP x).ai=9∨¬(x.ae=11∨x.ae=12∨x.ae=13∨x.ae=14∨x.ae=15)→x.bY= -1
 yC:(aP x).ai≠9→x.bA=[]
 rest:(aP x).ai=9→x.ae=17∨x.ae=18∨x.ae=19→∀s∈x.bA,s= -1
 br:aT x∨bm x→0≤x.br
 aN: -1≤x.aN∧(¬aW x→x.aN= -1)
 plain:(aP x).ai≠9→x.fire= -1∧x.res.case= -1∧x.bk=false
 cO:(aP x).ai=9→x.ae=24∨x.ae=25∨x.ae=26∨x.ae=28→x.bk=false∧x.point=0∧x.fire= -1∧x.res.case= -1∧x.res.aJ=0
 hand:x.ae=27→x.bk=false∧(∃j:Nat,x.k=j∧x.aH[j]?=some x.fire)∧x.res.aJ=0
 BE:(aP x).ai=9→x.ae=29∨x.ae=13∨x.ae=14→x.res.aJ=0
 bk:(aP x).ai=9→(aW x→0≤x.aN→x.bk=true)∧(x.ae=31∨x.ae=32→x.bk=true)
 dG:x.ae=28→(aP x).dG=false
 res:(aP x).ai=9→(x.ae=30∧x.res.aJ≠0)∨x.ae=31∨x.ae=32∨x.ae=33∨x.ae=34∨x.ae=17∨x.ae=18→cV (aP x) C x
 num: -1≤x.br
def eP(x:bI)(s:Nat)(sd:gn):Prop:=
 (aP x).ai≠9∧x.bY=s∧sd.case= -1∧sd.ch=(aP x).ch∧sd.cF=decide ((aP x).ai=2)∨
 (aP x).ai=9∧0≤sd.case∧x.bA[sd.case.toNat]?=some (s:Int)∧∃c,(aP x).cases[sd.case.toNat]?=some c∧sd.ch=c.ch∧sd.cF=c.cF
def eV(x:bI)(sd:gn):Prop:=
 (aP x).ai≠9∧(x.ae=12∨x.ae=13∨x.ae=14)∧x.aN= -1∨
 (aP x).ai=9∧(x.ae=29∧(∃j:Nat,(j:Int)<x.k∧x.aH[j]?=some sd.case)∨x.ae=30∧x.res.aJ=0∨x.ae=13∨x.ae=14∨x.ae=31∧(∃j:Nat,x.aH[j]?=some sd.case)∨x.ae=32∧∃j:Nat,x.k≤j∧x.aH[j]?=some sd.case)
def Lh(sd:gn):Int:=if sd.cF then 2*sd.ch-1 else 2*sd.ch-2
structure rQ(p:fS)(N n:Nat):Prop where
 ok:p.Ok
 size:p.size=N
 bV:p.bV.length=N
 aC:p.aC.length=n
 most:∀c∈p.aC,(c.length:Int)≤p.most
 nd:(p.aK++p.aC.flatten).Nodup
 kept:∀x∈p.aK++p.aC.flatten,0≤x∧p.bV[x.toNat]?=some true∧x<p.cO
 new:∀y:Nat,p.cO≤y→y<N→p.bV[y]?=some false
def lG(aq:List Int)(gs:List bI):Prop:=∀(c:Nat) h,aq[c]?=some h→ -1≤h∧h<gs.length∧∀(g:Nat) x,gs[g]?=some x→(aL x ((c:Int)+1)↔h=g)
def tc(gs:List bI)(ax:List (Int×Bool)):Prop:=∀(g:Nat) x s t,gs[g]?=some x→ax[g]?=some (s,t)→0≤s∧s≤2∧(t=true→aW x∧x.ae≠14∧0≤x.aN∧s=0)∧(s=1→x.ae=14∨x.ae=19)∧(x.ae=19→s=1)∧(x.ae=14→s=0→0≤x.aN)∧(s=2→x.ae=0∧x.at_=x.ops.length)
def pD(gs:List bI)(ax:List (Int×Bool)):Prop:=∀(g:Nat) x z,gs[g]?=some x→z∈x.wakes→∃(j:Nat) (y:bI) (s:Int),z=j∧gs[j]?=some y∧aW y∧0≤y.aN∧ax[j]?=some (s,false)∧(y.ae=14→s=1)
structure Inv(w:Wd)(ls:List (List Nat)):Prop where
 n8:w.gs.length≤8
 ax:w.ax.length=w.gs.length
 c8:w.au.length≤8
 aO:w.aO.length=w.au.length
 aq:w.aq.length=w.au.length
 au:∀r∈w.au,r.Ok
 JZ:w.ah.length≤64
 aS:w.aw.aS.length=w.ah.length
 bM:ls.length=16
 Eg:rQ w.Eg w.ah.length w.gs.length
 q:xQ w.aw ls
 loc:∀(g:Nat) x,w.gs[g]?=some x→Loc w.au.length x
 lock:lG w.aq w.gs
 cK:∀(s:Nat) sd,w.ah[s]?=some sd→sd.cK=true→w.Eg.cK s=true
 bY:∀(g:Nat) x (s:Nat),w.gs[g]?=some x→x.bY=((s:Nat):Int)→∃sd,w.ah[s]?=some sd∧sd.cK=true∧sd.g=g∧eP x s sd
 bA:∀(g:Nat) x (i s:Nat),w.gs[g]?=some x→x.bA[i]?=some ((s:Nat):Int)→∃sd,w.ah[s]?=some sd∧sd.cK=true∧sd.g=g∧sd.case=(i:Nat)∧eP x s sd
 EJ:∀(k:Nat) l s,ls[k]?=some l→s∈l→∃(sd:gn) (g:Nat) (x:bI),w.ah[s]?=some sd∧sd.cK=true∧sd.g=((g:Nat):Int)∧w.gs[g]?=some x∧eP x s sd∧eV x sd∧(k:Int)=Lh sd
 look:∀(g:Nat) x,w.gs[g]?=some x→bm x→∃(s k:Nat) (l:List Nat) (sd:gn),x.br=s∧ls[k]?=some l∧s∈l∧w.ah[s]?=some sd∧0≤sd.case∧aL x sd.ch
 claim:∀(g:Nat) x,w.gs[g]?=some x→aT x→∃(s z:Nat) (sd:gn) (y:bI),x.br=s∧w.ah[s]?=some sd∧sd.cK=true∧sd.g=z∧z≠g∧w.gs[z]?=some y∧eP y s sd∧aW y∧y.aN= -1∧y.fire=sd.case∧
  ((aP y).ai=9→y.bk=true)∧((aP y).ai≠9→∀(k:Nat) l,ls[k]?=some l→s ∉ l)∧aL x sd.ch
 pE:∀(g:Nat) x (g':Nat) x' (s s':Nat) sd sd',w.gs[g]?=some x→aT x→w.gs[g']?=some x'→aT x'→x.br=s→x'.br=s'→w.ah[s]?=some sd→w.ah[s']?=some sd'→sd.g=sd'.g→g=g'
 served:∀(g:Nat) x (s:Nat),w.gs[g]?=some x→x.aN=s→∃sd,w.ah[s]?=some sd∧sd.cK=true∧sd.g=g∧eP x s sd∧x.fire=sd.case
 st:tc w.gs w.ax
 jn:pD w.gs w.ax
 pg:∀(g:Nat) x,w.gs[g]?=some x→x.wakes.Nodup
 rf:∀(g:Nat) x (g':Nat) x' z,w.gs[g]?=some x→w.gs[g']?=some x'→z∈x.wakes→z∈x'.wakes→g=g'
theorem cX{gs:List bI}{g j:Nat}{x x' y:bI}(hx:gs[g]?=some x)(h:(gs.set g x')[j]?=some y):(j=g∧y=x')∨(j≠g∧gs[j]?=some y):=by
 exact aY0
theorem di{gs:List bI}{g:Nat}{x:bI}(x':bI)(hx:gs[g]?=some x):(gs.set g x')[g]?=some x':=nH (cA hx)
theorem gd{gs:List bI}{g j:Nat}(x':bI)(h:j≠g):(gs.set g x')[j]?=gs[j]?:=oA (dE h)
section
variable{aq:List Int}{gs:List bI}(h:lG aq gs)
include h
theorem lG.same{g:Nat}{x x':bI}(hx:gs[g]?=some x)(he:∀c,aL x' c↔aL x c):lG aq (gs.set g x'):=by
 intro c o ho;obtain⟨h1,h2,h3⟩:=h c o ho;refine⟨h1,bp5,fun j y hy=>?_⟩;rcases cX hx hy with⟨rfl,rfl⟩|⟨e,hy⟩
 ·rw[he];exact h3 _ _ hx
 ·exact h3 j y hy
theorem lG.acquire{g c:Nat}{x x':bI}(hx:gs[g]?=some x)(hc:aq[c]?=some (-1))(he:∀d,aL x' d↔aL x d∨d=(c:Int)+1):lG (aq.set c g) (gs.set g x'):=by
 have hg:g<gs.length:=cA hx;intro d o ho;by_cases hd:d=c
 ·exact aZ4
 ·rw[oA (dE hd)]at ho;obtain⟨h1,h2,h3⟩:=h d o ho;refine⟨h1,bp5,fun j y hy=>?_⟩;rcases cX hx hy with⟨rfl,rfl⟩|⟨e,hy⟩
  ·rw[he,h3 _ _ hx];constructor
   ·rintro(h|h)
    ·exact h
    ·omega
   ·exact .inl
  ·exact h3 j y hy
theorem lG.release{g c:Nat}{x x':bI}(hx:gs[g]?=some x)(hc:aq[c]?=some (g:Int))(he:∀d,aL x' d↔aL x d∧d≠(c:Int)+1):lG (aq.set c (-1)) (gs.set g x'):=by
 have hg:g<gs.length:=cA hx;intro d o ho;by_cases hd:d=c
 ·exact aZ4
 ·rw[oA (dE hd)]at ho;obtain⟨h1,h2,h3⟩:=h d o ho;refine⟨h1,bp5,fun j y hy=>?_⟩;rcases cX hx hy with⟨rfl,rfl⟩|⟨e,hy⟩
  ·rw[he,h3 _ _ hx];constructor
   ·exact fun h=>h.1
   ·exact fun h=>⟨h,oX⟩
  ·exact h3 j y hy
theorem lG.one{g g':Nat}{x x':bI}{c:Int}(hx:gs[g]?=some x)(th:gs[g']?=some x')(h1:aL x c)(h2:aL x' c)(hc:1≤c∧c≤aq.length):g=g':=by
 obtain⟨o,ho⟩:∃o,aq[(c-1).toNat]?=some o:=⟨_,fv oX⟩;have e:(((c-1).toNat:Int)+1)=c:=oX
 obtain⟨_,_,h3⟩:=h _ _ ho;have a:=(h3 g x hx).1 (by rw[e];exact h1);have b:=(h3 g' x' th).1 (by rw[e];exact h2);omega
end
section
variable{w w':Wd}{ls:List (List Nat)}
def Li(w:Wd)(g z:Nat):Prop:=∀(j:Nat) u (s:Nat) sd,w.gs[j]?=some u→j≠g→aT u→u.br=s→w.ah[s]?=some sd→sd.g≠z
theorem Inv.mn(I:Inv w ls){g:Nat}{x x':bI}(hx:w.gs[g]?=some x)(hL:Loc w.au.length x')(own:∀(k:Nat) l s sd,ls[k]?=some l→s∈l→w.ah[s]?=some sd→sd.g=g→eP x s sd→eV x sd→eP x' s sd∧eV x' sd)(bY:∀s:Nat,x'.bY=s→∃sd,w.ah[s]?=some sd∧sd.cK=true∧sd.g=g∧eP x' s sd)(bA:∀i s:Nat,x'.bA[i]?=some (s:Int)→∃sd,w.ah[s]?=some sd∧sd.cK=true∧sd.g=g∧sd.case=i∧eP x' s sd)(gm:∀(j:Nat) u (s:Nat) sd,w.gs[j]?=some u→j≠g→aT u→u.br=s→w.ah[s]?=some sd→sd.g=g→eP x s sd→aW x→x.aN= -1→x.fire=sd.case→((aP x).ai=9→x.bk=true)→eP x' s sd∧aW x'∧x'.aN= -1∧x'.fire=sd.case∧((aP x').ai=9→x'.bk=true)∧((aP x').ai≠9→(aP x).ai≠9))(Hu:aT x'→∃(s z:Nat) (sd:gn) (y:bI),x'.br=s∧w.ah[s]?=some sd∧sd.cK=true∧sd.g=z∧z≠g∧w.gs[z]?=some y∧eP y s sd∧aW y∧y.aN= -1∧y.fire=sd.case∧((aP y).ai=9→y.bk=true)∧((aP y).ai≠9→∀(k:Nat) l,ls[k]?=some l→s ∉ l)∧aL x' sd.ch∧Li w g z)(YI:bm x'→∃(s k:Nat) (l:List Nat) (sd:gn),x'.br=s∧ls[k]?=some l∧s∈l∧w.ah[s]?=some sd∧0≤sd.case∧aL x' sd.ch)(par:∀s:Nat,x'.aN=s→∃sd,w.ah[s]?=some sd∧sd.cK=true∧sd.g=g∧eP x' s sd∧x'.fire=sd.case)(wk1:x'.wakes.Nodup)(wk2:∀(j:Nat) u z,w.gs[j]?=some u→j≠g→z∈u.wakes→z ∉ x'.wakes)(e1:w'.gs=w.gs.set g x')(e2:w'.ax.length=w.ax.length)(e3:w'.au.length=w.au.length)(e4:∀r∈w'.au,r.Ok)(e5:w'.aO.length=w.aO.length)(e6:w'.aq.length=w.aq.length)(e7:lG w'.aq w'.gs)(e8:w'.ah=w.ah)(e9:w'.aw=w.aw)(Lj:w'.Eg=w.Eg)(jf:tc w'.gs w'.ax)(J0:pD w'.gs w'.ax):Inv w' ls:=by
 have hg:g<w.gs.length:=cA hx;have cP:w'.gs.length=w.gs.length:=by rw[e1];simp
 refine⟨by rw[cP];exact I.n8,by rw[e2,cP];exact I.ax,by rw[e3];exact I.c8,by rw[e5,e3];exact I.aO,by rw[e6,e3];exact I.aq,e4,by rw[e8];exact I.JZ,by rw[e9,e8];exact I.aS,I.bM,by rw[Lj,e8,cP];exact I.Eg,by rw[e9];exact I.q,?_,e7,by rw[e8,Lj];exact I.cK,?_,?_,?_,?_,?_,?_,?_,jf,J0,?_,?_⟩
 ·intro j y hy;rw[e1]at hy;rw[e3];rcases cX hx hy with⟨rfl,rfl⟩|⟨cM,hy⟩
  ·exact hL
  ·exact I.loc j y hy
 ·intro j y s hy hm;rw[e1]at hy;rw[e8];rcases cX hx hy with⟨rfl,rfl⟩|⟨cM,hy⟩
  ·exact bY s hm
  ·exact I.bY j y s hy hm
 ·intro j y i s hy hm;rw[e1]at hy;rw[e8];rcases cX hx hy with⟨rfl,rfl⟩|⟨cM,hy⟩
  ·exact bA i s hm
  ·exact I.bA j y i s hy hm
 ·intro k l s hl hm;obtain⟨sd,j,y,h1,h2,h3,h4,h5,h6,h7⟩:=I.EJ k l s hl hm;rw[e1,e8];by_cases hj:j=g
  ·subst hj;rw[hx]at h4;cases h4;obtain⟨a,b⟩:=own k l s sd hl hm h1 h3 h5 h6;exact⟨sd,j,x',h1,h2,h3,di _ hx,a,b,h7⟩
  ·exact⟨sd,j,y,h1,h2,h3,by rw[gd _ hj];exact h4,h5,h6,h7⟩
 ·intro j y hy ja;rw[e1]at hy;rw[e8];rcases cX hx hy with⟨rfl,rfl⟩|⟨cM,hy⟩
  ·exact YI ja
  ·exact I.look j y hy ja
 ·intro j y hy hc;rw[e1]at hy;rw[e1,e8];rcases cX hx hy with⟨rfl,rfl⟩|⟨cM,hy⟩
  ·obtain⟨s,z,sd,u,h1,h2,h3,h4,h5,h6,h7,h8,h9,ph,rA,uQ,uu,_⟩:=Hu hc;exact⟨s,z,sd,u,h1,h2,h3,h4,h5,by rw[gd _ h5];exact h6,h7,h8,h9,ph,rA,uQ,uu⟩
  ·have rN:=hy;obtain⟨s,z,sd,u,h1,h2,h3,h4,h5,h6,h7,h8,h9,ph,rA,uQ,uu⟩:=I.claim j y hy hc;by_cases hz:z=g
   ·subst hz;rw[hx]at h6;cases h6;obtain⟨a,b,c,d,e,f⟩:=gm j y s sd rN cM hc h1 h2 h4 h7 h8 h9 ph rA;exact⟨s,z,sd,x',h1,h2,h3,h4,h5,di _ hx,a,b,c,d,e,fun h=>uQ (f h),uu⟩
   ·exact⟨s,z,sd,u,h1,h2,h3,h4,h5,by rw[gd _ hz];exact h6,h7,h8,h9,ph,rA,uQ,uu⟩
 ·intro j y j' y' s s' sd sd' hy hc uO Ek hh Xv rh vz G4;rw[e1]at hy uO;rw[e8]at rh vz;rcases cX hx hy with⟨h1,h2⟩|⟨cM,rN⟩<;>rcases cX hx uO with⟨h3,h4⟩|⟨Lk,YJ⟩
  ·rw[h1,h3]
  ·subst h2;obtain⟨s0,z,Nf,u,a1,a2,a3,a4,a5,a6,a7,a8,a9,a10,a11,a12,a13,YK⟩:=Hu hc;obtain rfl:s0=s:=by omega
   rw[rh]at a2;cases a2;exact aX (G4.symm.trans a4) (YK j' y' s' sd' YJ Lk Ek Xv vz)
  ·subst h4;obtain⟨s0,z,Nf,u,a1,a2,a3,a4,a5,a6,a7,a8,a9,a10,a11,a12,a13,YK⟩:=Hu Ek;obtain rfl:s0=s':=by omega
   rw[vz]at a2;cases a2;exact aX (G4.trans a4) (YK j y s sd rN cM hc hh rh)
  ·exact I.pE j y j' y' s s' sd sd' rN hc YJ Ek hh Xv rh vz G4
 ·intro j y s hy hp;rw[e1]at hy;rw[e8];rcases cX hx hy with⟨rfl,rfl⟩|⟨cM,hy⟩
  ·exact par s hp
  ·exact I.served j y s hy hp
 ·intro j y hy;rw[e1]at hy;rcases cX hx hy with⟨rfl,rfl⟩|⟨cM,hy⟩
  ·exact wk1
  ·exact I.pg j y hy
 ·intro j y j' y' z hy uO hz xq;rw[e1]at hy uO;rcases cX hx hy with⟨h1,h2⟩|⟨cM,hy⟩<;>rcases cX hx uO with⟨h3,h4⟩|⟨Lk,uO⟩
  ·rw[h1,h3]
  ·rw[h2]at hz;exact aX hz (wk2 j' y' z uO Lk xq)
  ·rw[h4]at xq;exact aX xq (wk2 j y z hy cM hz)
  ·exact I.rf j y j' y' z hy uO hz xq
structure lH(x x':bI):Prop where
 aP:aP x'=aP x
 wt:aW x'↔aW x
 cl:¬aT x'
 lo:¬bm x'
 bY:x'.bY=x.bY
 bA:x'.bA=x.bA
 wakes:x'.wakes=x.wakes
 aN:x'.aN=x.aN
 seen:aW x→x'.fire=x.fire∧x'.bk=x.bk
 q:∀sd,eV x sd→eV x' sd
theorem lH.owns{x x':bI}(h:lH x x'){s:Nat}{sd:gn}:eP x' s sd↔eP x s sd:=by unfold eP;rw[h.aP,h.bY,h.bA]
section
variable{gs:List bI}{b:List (Int×Bool)}
theorem tc.same(h:tc gs b){g:Nat}{x x':bI}(hx:gs[g]?=some x)(hs:∃t,b[g]?=some (0,t))(hw:aW x→aW x')(hp:x'.aN=x.aN)(Ng:x'.ae=14→x.ae=14)(p19:x'.ae≠19):tc (gs.set g x') b:=by
 obtain⟨t0,oH⟩:=hs;intro j y s t hy hb;rcases cX hx hy with⟨rfl,rfl⟩|⟨cM,hy⟩
 ·rw[oH]at hb;cases hb;obtain⟨h1,h2,h3,h4,h5,h6,h7⟩:=h _ x 0 t0 hx oH;refine⟨h1,h2,fun ht=>?_,fun h=>oX,fun h=>aX h p19,fun h _=>?_,fun h=>oX⟩
  ·obtain⟨a,b,c,d⟩:=h3 ht;exact⟨hw a,fun h=>b (Ng h),by rw[hp];exact c,d⟩
  ·rw[hp];exact h6 (Ng h) rfl
 ·exact h j y s t hy hb
theorem pD.same(h:pD gs b){g:Nat}{x x':bI}(hx:gs[g]?=some x)(hw:aW x→aW x')(hp:x'.aN=x.aN)(hk:x'.wakes=x.wakes)(Ng:x'.ae=14→x.ae=14):pD (gs.set g x') b:=by
 intro j y z hy hz
 have key:∀(i:Nat) (u:bI) (s:Int),gs[i]?=some u→aW u→0≤u.aN→b[i]?=some (s,false)→(u.ae=14→s=1)→∃u',(gs.set g x')[i]?=some u'∧aW u'∧0≤u'.aN∧b[i]?=some (s,false)∧(u'.ae=14→s=1):=by
  intro i u s h1 h2 h3 h4 h5;by_cases hi:i=g
  ·subst hi;rw[hx]at h1;cases h1;exact⟨x',di _ hx,hw h2,by rw[hp];exact h3,h4,fun h=>h5 (Ng h)⟩
  ·exact⟨u,by rw[gd _ hi];exact h1,h2,h3,h4,h5⟩
 have xq:∃(j0:Nat) (y0:bI),gs[j0]?=some y0∧z∈y0.wakes:=by
  rcases cX hx hy with⟨h1,h2⟩|⟨cM,hy⟩
  ·exact⟨g,x,hx,by rw[←hk,←h2];exact hz⟩
  ·exact⟨j,y,hy,hz⟩
 obtain⟨j0,y0,J2,fV⟩:=xq;obtain⟨i,u,s,h0,h1,h2,h3,h4,h5⟩:=h j0 y0 z J2 fV;obtain⟨u',a⟩:=key i u s h1 h2 h3 h4 h5;exact⟨i,u',s,h0,a⟩
end
section
variable(I:Inv w ls){g:Nat}{x x':bI}(hx:w.gs[g]?=some x)
include I hx
theorem Inv.iQ(h1:aP x'=aP x)(h2:x'.bY=x.bY)(h3:x'.bA=x.bA):(∀s:Nat,x'.bY=s→∃sd,w.ah[s]?=some sd∧sd.cK=true∧sd.g=g∧eP x' s sd)∧(∀i s:Nat,x'.bA[i]?=some (s:Int)→∃sd,w.ah[s]?=some sd∧sd.cK=true∧sd.g=g∧sd.case=i∧eP x' s sd)∧∀s sd,eP x' s sd↔eP x s sd:=by
 have ho:∀s sd,eP x' s sd↔eP x s sd:=fun s sd=>by unfold eP;rw[h1,h2,h3]
 refine⟨fun s h=>?_,fun i s h=>?_,ho⟩
 ·obtain⟨sd,a,b,c,d⟩:=I.bY g x s hx (by rw[←h2];exact h);exact⟨sd,a,b,c,(ho _ _).2 d⟩
 ·obtain⟨sd,a,b,c,e,d⟩:=I.bA g x i s hx (by rw[←h3];exact h);exact⟨sd,a,b,c,e,(ho _ _).2 d⟩
theorem Inv.qB(ho:∀s sd,eP x' s sd↔eP x s sd)(h1:x'.aN=x.aN)(h2:aW x→x'.fire=x.fire):∀s:Nat,x'.aN=s→∃sd,w.ah[s]?=some sd∧sd.cK=true∧sd.g=g∧eP x' s sd∧x'.fire=sd.case:=by
 intro s h;have hp:x.aN=s:=by rw[←h1];exact h
 have hw:aW x:=Classical.byContradiction fun hn=>by have:=(I.loc _ x hx).aN.2 hn;omega
 obtain⟨sd,a,b,c,d,e⟩:=I.served g x s hx hp;exact⟨sd,a,b,c,(ho _ _).2 d,by rw[h2 hw];exact e⟩
theorem Inv.jU(h:x'.wakes.Sublist x.wakes):x'.wakes.Nodup∧∀(j:Nat) u z,w.gs[j]?=some u→j≠g→z∈u.wakes→z ∉ x'.wakes:=
 ⟨h.nodup (I.pg g x hx),fun j u z hj cM hz xq=>cM (I.rf j u g x z hj hx hz (h.subset xq))⟩
theorem Inv.frame(hs:∃t,w.ax[g]?=some (0,t))(M:lH x x')(Ng:x'.ae=14→x.ae=14)(p19:x'.ae≠19)(hL:Loc w.au.length x')(e1:w'.gs=w.gs.set g x')(e2:w'.ax=w.ax)(e3:w'.au.length=w.au.length)(e4:∀r∈w'.au,r.Ok)(e5:w'.aO.length=w.aO.length)(e6:w'.aq.length=w.aq.length)(e7:lG w'.aq w'.gs)(e8:w'.ah=w.ah)(e9:w'.aw=w.aw)(Lj:w'.Eg=w.Eg):Inv w' ls:=
 have K:=I.iQ hx M.aP M.bY M.bA
 have W:=I.jU (x':=x') hx (by rw[M.wakes];exact List.Sublist.refl _)
 I.mn hx hL (fun k l s sd _ _ _ _ a b=>⟨(K.2.2 _ _).2 a,M.q _ b⟩) K.1 K.2.1 (fun j u s sd _ _ _ _ _ _ a b c d e=>⟨(K.2.2 _ _).2 a,M.wt.2 b,M.aN.trans c,by rw[(M.seen b).1];exact d,by rw[M.aP,(M.seen b).2];exact e,by rw[M.aP];exact id⟩)
  (fun h=>aX h M.cl) (fun h=>aX h M.lo) (I.qB hx K.2.2 M.aN fun h=>(M.seen h).1) W.1 W.2 e1 (by rw[e2]) e3 e4 e5 e6 e7 e8 e9 Lj (by rw[e1,e2];exact I.st.same hx hs M.wt.2 M.aN Ng p19) (by rw[e1,e2];exact I.jn.same hx M.wt.2 M.aN M.wakes Ng)
end
end
theorem wg{ls:List (List Nat)}{s k:Nat}{l:List Nat}(h:(iA ls s)[k]?=some l):∃l0,ls[k]?=some l0∧l=l0.erase s:=by
 unfold iA at h;rw[na]at h
 cases hl:ls[k]? with
 |none=>rw[hl]at h;cases h
 |some l0=>rw[hl]at h;simp at h;exact⟨l0,rfl,h.symm⟩
theorem OV{ls:List (List Nat)}{k:Nat}{l:List Nat}(s:Nat)(h:ls[k]?=some l):(iA ls s)[k]?=some (l.erase s):=by
 unfold iA;rw[na,h];rfl
section
variable{w w':Wd}{ls:List (List Nat)}
theorem Inv.B8(I:Inv w ls){s:Nat}(hs:s<w.ah.length)(Aq:∀(g:Nat) x,w.gs[g]?=some x→bm x→x.br≠s):∃q',fZ w s=some {w with aw:=q'}∧Inv {w with aw:=q'} (iA ls s)∧(∀(k:Nat) l,(iA ls s)[k]?=some l→s ∉ l):=by
 have N5:=I.aS;have h64:=I.JZ;obtain⟨q',ok,h1,h2,h3⟩:=I.q.drop (x:=s) oX oX;have Ko:∀(k:Nat) l,(iA ls s)[k]?=some l→s ∉ l:=fun k l hl=>by obtain⟨l0,a,rfl⟩:=wg hl;exact fun hm=>((I.q.nodup k l0 a).mem_erase_iff.1 hm).1 rfl
 refine⟨q',by unfold fZ;rw[h1];rfl,⟨I.n8,I.ax,I.c8,I.aO,I.aq,I.au,I.JZ,h3.trans I.aS,by unfold iA;rw[ko];exact I.bM,I.Eg,h2,I.loc,I.lock,I.cK,I.bY,I.bA,?_,?_,?_,I.pE,I.served,I.st,I.jn,I.pg,I.rf⟩,Ko⟩
 ·intro k l u hl hm;obtain⟨l0,a,rfl⟩:=wg hl;exact I.EJ k l0 u a (List.mem_of_mem_erase hm)
 ·intro g x hx hl;obtain⟨u,k,l,sd,a,b,c,d,e,f⟩:=I.look g x hx hl;refine⟨u,k,l.erase s,sd,a,OV s b,?_,d,e,f⟩;rw[(I.q.nodup k l b).mem_erase_iff];exact⟨fun e=>Aq g x hx hl (by rw[a,e]),c⟩
 ·intro g x hx hc;obtain⟨u,z,sd,y,h1,h2,h3,h4,h5,h6,h7,h8,h9,ph,rA,uQ,uu⟩:=I.claim g x hx hc;refine⟨u,z,sd,y,h1,h2,h3,h4,h5,h6,h7,h8,h9,ph,rA,fun h k l hl hm=>?_,uu⟩;obtain⟨l0,a,rfl⟩:=wg hl;exact uQ h k l0 a (List.mem_of_mem_erase hm)
def uW(a b:gn):Prop:=a.cK=b.cK∧a.g=b.g∧a.ch=b.ch∧a.case=b.case∧a.cF=b.cF
theorem uW.owns{a b:gn}(h:uW a b){x:bI}{s:Nat}:eP x s a↔eP x s b:=by obtain⟨_,_,h3,h4,h5⟩:=h;unfold eP;rw[h3,h4,h5]
theorem uW.eV{a b:gn}(h:uW a b){x:bI}:eV x a↔eV x b:=by obtain⟨_,_,h3,h4,h5⟩:=h;unfold V.eV;rw[h4]
theorem Di{l:List gn}{s j:Nat}{sd sd' u:gn}(hs:l[s]?=some sd)(h:(l.set s sd')[j]?=some u):(j=s∧u=sd')∨(j≠s∧l[j]?=some u):=by
 exact aY0
theorem qN{l:List gn}{s:Nat}{sd:gn}(sd':gn)(hs:l[s]?=some sd):(l.set s sd')[s]?=some sd':=nH (cA hs)
theorem OW{l:List gn}{s j:Nat}(sd':gn)(h:j≠s):(l.set s sd')[j]?=l[j]?:=oA (dE h)
theorem Inv.ZG(I:Inv w ls){s:Nat}{sd sd':gn}(hs:w.ah[s]?=some sd)(h:uW sd' sd):Inv (w.cJ s sd') ls:=by
 have fwd:∀(j:Nat) u,w.ah[j]?=some u→∃u',(w.ah.set s sd')[j]?=some u'∧uW u' u:=by
  intro j u hu;by_cases e:j=s
  ·subst e;rw[hs]at hu;cases hu;exact⟨sd',qN _ hs,h⟩
  ·exact⟨u,by rw[OW _ e];exact hu,rfl,rfl,rfl,rfl,rfl⟩
 have bwd:∀(j:Nat) u',(w.ah.set s sd')[j]?=some u'→∃u,w.ah[j]?=some u∧uW u' u:=by
  intro j u' hu;rcases Di hs hu with⟨rfl,rfl⟩|⟨e,hu⟩
  ·exact⟨sd,hs,h⟩
  ·exact⟨u',hu,rfl,rfl,rfl,rfl,rfl⟩
 have cP:(w.ah.set s sd').length=w.ah.length:=sX
 refine⟨I.n8,I.ax,I.c8,I.aO,I.aq,I.au,by simp only[Wd.cJ];rw[cP];exact I.JZ,by simp only[Wd.cJ];rw[cP];exact I.aS,I.bM,by simp only[Wd.cJ];rw[cP];exact I.Eg,I.q,I.loc,I.lock,?_,?_,?_,?_,?_,?_,?_,?_,I.st,I.jn,I.pg,I.rf⟩
 ·intro j u' hu hl;obtain⟨u,a,b⟩:=bwd j u' hu;exact I.cK j u a (by rw[←b.1];exact hl)
 ·intro g x j hx hm;obtain⟨u,a,b,c,d⟩:=I.bY g x j hx hm;obtain⟨u',e,f⟩:=fwd j u a;exact⟨u',e,f.1.trans b,f.2.1.trans c,f.owns.2 d⟩
 ·intro g x i j hx hm;obtain⟨u,a,b,c,k,d⟩:=I.bA g x i j hx hm;obtain⟨u',e,f⟩:=fwd j u a;exact⟨u',e,f.1.trans b,f.2.1.trans c,f.2.2.2.1.trans k,f.owns.2 d⟩
 ·intro k l j hl hm;obtain⟨u,g,x,a,b,c,d,e,i,o⟩:=I.EJ k l j hl hm;obtain⟨u',p,f⟩:=fwd j u a;exact⟨u',g,x,p,f.1.trans b,f.2.1.trans c,d,f.owns.2 e,f.eV.2 i,by unfold Lh at o ⊢;rw[f.2.2.2.2,f.2.2.1];exact o⟩
 ·intro g x hx hl;obtain⟨j,k,l,u,a,b,c,d,e,i⟩:=I.look g x hx hl;obtain⟨u',p,f⟩:=fwd j u d;exact⟨j,k,l,u',a,b,c,p,by rw[f.2.2.2.1];exact e,by rw[f.2.2.1];exact i⟩
 ·intro g x hx hc;obtain⟨j,z,u,y,h1,h2,h3,h4,h5,h6,h7,h8,h9,ph,rA,uQ,uu⟩:=I.claim g x hx hc;obtain⟨u',p,f⟩:=fwd j u h2;exact⟨j,z,u',y,h1,p,f.1.trans h3,f.2.1.trans h4,h5,h6,f.owns.2 h7,h8,h9,ph.trans f.2.2.2.1.symm,rA,uQ,by rw[f.2.2.1];exact uu⟩
 ·intro g x g' x' j j' u1 u2 hx hc th Ek h1 h2 h3 h4 h5;obtain⟨v1,a1,b1⟩:=bwd j u1 h3;obtain⟨v2,a2,b2⟩:=bwd j' u2 h4;exact I.pE g x g' x' j j' v1 v2 hx hc th Ek h1 h2 a1 a2 (by rw[←b1.2.1,←b2.2.1];exact h5)
 ·intro g x j hx hp;obtain⟨u,a,b,c,d,e⟩:=I.served g x j hx hp;obtain⟨u',p,f⟩:=fwd j u a;exact⟨u',p,f.1.trans b,f.2.1.trans c,f.owns.2 d,e.trans f.2.2.2.1.symm⟩
theorem Inv.Wk(I:Inv w ls){s:Nat}{sd sd':gn}{p':fS}(hs:w.ah[s]?=some sd)(Ko:sd.cK=true→∀(g:Nat) x,w.gs[g]?=some x→sd.g=g→¬eP x s sd)(hP:rQ p' w.ah.length w.gs.length)(hl:∀y:Nat,y≠s→p'.cK y=w.Eg.cK y)(hl':sd'.cK=true→p'.cK s=true):Inv {w.cJ s sd' with Eg:=p'} ls:=by
 have cM:∀(j g:Nat) (x:bI) u,w.gs[g]?=some x→w.ah[j]?=some u→u.cK=true→u.g=g→eP x j u→j≠s:=by intro j g x u hx hu hl hg ho e;subst e;rw[hs]at hu;cases hu;exact Ko hl g x hx hg ho
 have fwd:∀(j g:Nat) (x:bI) u,w.gs[g]?=some x→w.ah[j]?=some u→u.cK=true→u.g=g→eP x j u→(w.ah.set s sd')[j]?=some u:=by intro j g x u hx hu hl hg ho;rw[OW _ (cM j g x u hx hu hl hg ho)];exact hu
 have cP:(w.ah.set s sd').length=w.ah.length:=sX
 refine⟨I.n8,I.ax,I.c8,I.aO,I.aq,I.au,by simp only[Wd.cJ];rw[cP];exact I.JZ,by simp only[Wd.cJ];rw[cP];exact I.aS,I.bM,by simp only[Wd.cJ];rw[cP];exact hP,I.q,I.loc,I.lock,?_,?_,?_,?_,?_,?_,?_,?_,I.st,I.jn,I.pg,I.rf⟩
 ·intro j u' hu pJ;rcases Di hs hu with⟨rfl,rfl⟩|⟨e,hu⟩
  ·exact hl' pJ
  ·simp only;rw[hl j e];exact I.cK j u' hu pJ
 ·intro g x j hx hm;obtain⟨u,a,b,c,d⟩:=I.bY g x j hx hm;exact⟨u,fwd j g x u hx a b c d,b,c,d⟩
 ·intro g x i j hx hm;obtain⟨u,a,b,c,k,d⟩:=I.bA g x i j hx hm;exact⟨u,fwd j g x u hx a b c d,b,c,k,d⟩
 ·intro k l j pJ hm;obtain⟨u,g,x,a,b,c,d,e,i,o⟩:=I.EJ k l j pJ hm;exact⟨u,g,x,fwd j g x u d a b c e,b,c,d,e,i,o⟩
 ·intro g x hx ja;obtain⟨j,k,l,u,a,b,c,d,e,i⟩:=I.look g x hx ja;obtain⟨u2,g2,x2,a2,b2,c2,d2,e2,i2,o2⟩:=I.EJ k l j b c;rw[d]at a2;cases a2;exact⟨j,k,l,u,a,b,c,fwd j g2 x2 u d2 d b2 c2 e2,e,i⟩
 ·intro g x hx hc;obtain⟨j,z,u,y,h1,h2,h3,h4,h5,h6,h7,h8,h9,ph,rA,uQ,uu⟩:=I.claim g x hx hc;exact⟨j,z,u,y,h1,fwd j z y u h6 h2 h3 h4 h7,h3,h4,h5,h6,h7,h8,h9,ph,rA,uQ,uu⟩
 ·intro g x g' x' j j' u1 u2 hx hc th Ek h1 h2 h3 h4 h5
  have key:∀(g:Nat) (x:bI) (j:Nat) u,w.gs[g]?=some x→aT x→x.br=j→(w.ah.set s sd')[j]?=some u→w.ah[j]?=some u:=by
   intro g x j u hx hc hh hu;obtain⟨j2,z,v,y,k1,k2,k3,k4,k5,k6,k7,_⟩:=I.claim g x hx hc;obtain rfl:j2=j:=oX
   rw[fwd j2 z y v k6 k2 k3 k4 k7]at hu;rw[←hu];exact k2
  exact I.pE g x g' x' j j' u1 u2 hx hc th Ek h1 h2 (key g x j u1 hx hc h1 h3) (key g' x' j' u2 th Ek h2 h4) h5
 ·intro g x j hx hp;obtain⟨u,a,b,c,d,e⟩:=I.served g x j hx hp;exact⟨u,fwd j g x u hx a b c d,b,c,d,e⟩
theorem Inv.UX(I:Inv w ls){s k g:Nat}{x:bI}{sd:gn}(hs:w.ah[s]?=some sd)(hl:sd.cK=true)(hg:sd.g=g)(hx:w.gs[g]?=some x)(ho:eP x s sd)(hm:eV x sd)(hk:(k:Int)=Lh sd)(ZH:k<16)(Ko:∀(k:Nat) l,ls[k]?=some l→s ∉ l)(Ft:(aP x).ai≠9→∀(j:Nat) u,w.gs[j]?=some u→aT u→u.br≠s):∃q' l,ls[k]?=some l∧lh w k s=some {w with aw:=q'}∧Inv {w with aw:=q'} (ls.set k (l++[s])):=by
 have N5:=I.aS;have h64:=I.JZ;have mj:s<w.ah.length:=cA hs;obtain⟨l,Fu⟩:∃l,ls[k]?=some l:=⟨_,fv (by have:=I.bM;omega)⟩;obtain⟨q',h1,h2,h3⟩:=I.q.push Fu (x:=s) oX Ko oX;refine⟨q',l,Fu,by unfold lh;rw[h1];rfl,⟨I.n8,I.ax,I.c8,I.aO,I.aq,I.au,I.JZ,h3.trans I.aS,by rw[kI];exact I.bM,I.Eg,h2,I.loc,I.lock,I.cK,I.bY,I.bA,?_,?_,?_,I.pE,I.served,I.st,I.jn,I.pg,I.rf⟩⟩
 ·intro k' l' u hl' Ht;rcases rP Fu hl' with⟨rfl,rfl⟩|⟨cM,hl'⟩
  ·rcases List.mem_append.1 Ht with h|h
   ·exact I.EJ k' l u Fu h
   ·simp at h;subst h;exact⟨sd,g,x,hs,hl,hg,hx,ho,hm,hk⟩
  ·exact I.EJ k' l' u hl' Ht
 ·intro j y hy ja;obtain⟨u,k',l',sd',a,b,c,d,e,f⟩:=I.look j y hy ja;by_cases kE:k'=k
  ·subst kE;rw[Fu]at b;cases b;exact⟨u,k',_,sd',a,yB Fu _,by simp[c],d,e,f⟩
  ·exact⟨u,k',l',sd',a,by rw[oA (dE kE)];exact b,c,d,e,f⟩
 ·intro j y hy hc;obtain⟨u,z,sd',y',a1,a2,a3,a4,h5,a6,h7,h8,h9,ph,rA,uQ,uu⟩:=I.claim j y hy hc;refine⟨u,z,sd',y',a1,a2,a3,a4,h5,a6,h7,h8,h9,ph,rA,fun h k' l' hl' Ht=>?_,uu⟩;rcases rP Fu hl' with⟨rfl,rfl⟩|⟨cM,hl'⟩
  ·rcases List.mem_append.1 Ht with h'|h'
   ·exact uQ h k' l Fu h'
   ·simp at h';subst h';rw[hs]at a2;cases a2;obtain rfl:z=g:=by omega
    rw[hx]at a6;cases a6;exact Ft h j y hy hc a1
  ·exact uQ h k' l' hl' Ht
end
end V
section
variable{af:Nat}{F:Fx}{w w0 w':World}{m m0:Mem}{S:Wd}
theorem OR{S':Wd}{f:Nat}{args:Array Value}{e0:Ending}(h:Calls prog f args w fun e w'=>e=e0∧At af F m w m w' S'):Calls prog f args w fun e w'=>e=e0∧To af F m w S' w':=
 h.mono fun e w' ⟨h1,h2⟩=>⟨h1,m,h2⟩
theorem xd(R:bz af F w m S)(aG:Good S)(g:Nat)(S':Wd)(d:Bool)(hm:gH S g=some (S',d)):Calls prog 105 #[.pointer (some ⟨F.al,0,none⟩),I g] w (eL (.bool d) (To af F m w S')):=by
 unfold gH at hm;simp only[bW,cI]at hm;obtain⟨x,hx,o,ho,hm⟩:=hm;obtain⟨ho,bO,dj⟩:=nB ho;by_cases h4:x.ae=4
 ·rw[aF h4]at hm
  cases hl:Mach.lock S g (o.ch-1) with
  |none=>rw[hl]at hm;cases hm
  |some S2=>
   rw[hl]at hm;cases hm;exact OR (Fm R g x hx o ho bO dj h4 _ hl)
 rw[aE h4]at hm;by_cases uQ:x.ae=12
 ·rw[aF uQ]at hm
  cases hm;exact OR (y6 R g x hx o ho bO dj uQ)
 rw[aE uQ]at hm;by_cases uu:x.ae=13
 ·rw[aF uu]at hm
  cases hm;exact OR (Fo R g x hx o ho bO dj uu)
 rw[aE uu]at hm;by_cases UW:x.ae=15
 ·rw[aF UW]at hm;simp only[cI]at hm;obtain⟨s,hs,sd,RY,hm⟩:=hm
  cases hm;exact Da R g x hx o ho bO dj UW aG s (du hs) sd RY
 rw[aE UW]at hm;by_cases SO:x.ae=16
 ·rw[aF SO]at hm
  cases hl:dk (free S (o.ch-1) g) g with
  |none=>rw[hl]at hm;cases hm
  |some S2=>
   rw[hl]at hm;cases hm;exact OR (AQ R g x hx o ho bO dj SO _ hl)
 rw[aE SO]at hm;by_cases XJ:x.ae=17
 ·rw[aF XJ]at hm;simp only[cI]at hm;obtain⟨z,hz,hm⟩:=hm
  cases hl:dk (({S with ax:=(Mach.ready S.ax z).1}:Wd).ay g {x with wakes:=x.wakes.drop 1}) g with
  |none=>rw[hl]at hm;cases hm
  |some S2=>
   rw[hl]at hm;cases hm;exact Db R g x hx o ho bO dj XJ z hz (aG.wakes g x hx) _ hl
 rw[aE XJ]at hm
 cases hm;exact OR (Fp R g x hx o ho bO dj (by simp[eO,h4,uQ,uu,UW,SO,XJ]))
theorem BY(R:bz af F w m S)(aG:Good S)(g:Nat)(sd:gn)(S':Wd)(hm:rE S g sd=some S'):Calls prog 102 #[bR F,I g,.agg #[B sd.cK,I sd.g,I sd.ch,I sd.case,B sd.cF,I sd.v,B sd.done]] w (ee (To af F m w S')):=by
 unfold rE at hm;simp only[bW,cI]at hm;obtain⟨x,hx,hm⟩:=hm;have eM:=cA hx;have BS:g<S.Eg.aC.length:=bo7
 have c3:=R.eu;have Fq:=R.tf;obtain⟨aU,cm,aY,aZ⟩:=R.pB;have A0:=(At.refl R).alloc (.cells #[B sd.cK,I sd.g,I sd.ch,I sd.case,B sd.cF,I sd.v,B sd.done] 105);have oH:(w.alloc (.cells #[B sd.cK,I sd.g,I sd.ch,I sd.case,B sd.cF,I sd.v,B sd.done] 105)).heap[w.heap.size]?=_:=dP w _;have hnf:=R.iT (Nat.le_refl w.heap.size);obtain⟨OS,BK,HNF,HX⟩:=ia A0 oH hnf hx;have HT:=ag (yW A0.bj aG.Eg g BS);clear R hx A0 oH hnf aG;by_cases eK:(S.Eg.take g).2.2=true
 ·rw[aF eK]at hm;simp only[cI]at hm;obtain⟨j,hj,Nf,Wh,hm⟩:=hm;have hj:=du hj;rw[eK,hj]at HT
  cases hm;have vy:j<S.ah.length:=cA Wh;have qH:=ag Wh;clear eK hj Wh;unfold bR;go_enter func102,ntmps102;go_wp2_with (go_at_call 154;refine HT.out.mono ?_;rintro e w2 ⟨rfl,m2,B2⟩;have R2:=B2.bj;have c9:=R2.ed;have We:=R2.eu;have kt:({S with Eg:=(S.Eg.take g).1}:Wd).gs[g]?=some x:=HX.out;have g8:=R2.g kt 8 _ rfl;have fg8:=R2.frozen R2.aB.gs (g*25+8);have g2:=R2.g kt 2 _ rfl;have fg2:=R2.frozen R2.aB.gs (g*25+2);have vz:=At.stays OS.out.bj B2 BK HNF;have mq:=ag vz.1;have nb:=R2.ne R2.aB.gs R2.aB.ah;have Kn:=R2.ne R2.aB.ah R2.aB.gs;have nw:=R2.ne R2.aB.gs R2.aB.al;have nw':=R2.ne R2.aB.al R2.aB.gs;have nl:F.gs≠w.heap.size:=fun h=>vz.2 .gs (by rw[←h];exact R2.aB.gs);have A2:=OS.out.cont B2;have A3:=A2.g kt {x with bY:=j} (q:=8) (v:=I j);have vC:=ag A3;clear A2 A3 R2 kt vz B2)
  obtain⟨w3,xY,A3⟩:∃w3,w3=_∧At af F m w m2 w3 _:=⟨_,rfl,vC⟩;rw[←xY];have Hl:w3.heap[w.heap.size]?=some (.cells #[B sd.cK,I sd.g,I sd.ch,I sd.case,B sd.cF,I sd.v,B sd.done] 105 (0,0)):=by rw[xY,fQ _ _ _ _ (dE nl)];exact mq
  obtain⟨q0,q1,q2,q3,q4,q5,q6⟩:=ao9 Hl;have R3:=A3.bj;have OT:(({S with Eg:=(S.Eg.take g).1}:Wd).ay g {x with bY:=j}).ah[j]?=some Nf:=qH.out;have d9:=R3.ed;rw[show(({S with Eg:=(S.Eg.take g).1}:Wd).ay g {x with bY:=j}).ah.length=S.ah.length from rfl]at d9;have HC7:=ag (BW R3 OT);have US:=ag (R3.frozen R3.aB.ah);have A4:=(A3.drew).Rw OT sd;have BX:=ag A4;clear R3 OT A4 A3 xY Hl vC c9 g8 fg8 g2 fg2;go_still_tail 7,kX;change wpList _ _ _ _ _ w3.drew;refine cB rfl 105 (.tmp 43) (.tmp 42) rfl F.ah (j*7) #[B sd.cK,I sd.g,I sd.ch,I sd.case,B sd.cF,I sd.v,B sd.done] rfl rfl kX (fun q hq=>HC7 q hq) (fun q hq=>US _) bi9 ?_;obtain⟨w4,xX,A4⟩:∃w4,w4=_∧At af F m w m2 w4 _:=⟨_,rfl,BX⟩;change wpList _ _ _ _ _ (w3.drew.setCells F.ah (j*7) [B sd.cK,I sd.g,I sd.ch,I sd.case,B sd.cF,I sd.v,B sd.done]);rw[←xX];have R4:=A4.bj;have vB:((({S with Eg:=(S.Eg.take g).1}:Wd).ay g {x with bY:=j}).cJ j sd).gs[g]?=some {x with bY:=j}:=az (S:={S with Eg:=(S.Eg.take g).1}) HX;obtain⟨k2,fk2⟩:=R4.ps vB 2 _ rfl;have A5:=A4.g vB {x with bY:=j,ae:=11} (q:=2) (v:=I 11);have vV:=ag A5;clear R4 vB A5 A4 xX BX;simp only[Act.put];go_wp2;go_end0;exact⟨rfl,_,vV.out.eq (by simp[Wd.ay,Wd.cJ,my])⟩
 ·rw[aE eK]at hm;have CP:(S.Eg.take g).2.2=false:=by simpa using eK
  rw[CP]at HT
  cases hm;clear eK CP;unfold bR;go_enter func102,ntmps102;go_wp2_with (go_at_call 154;refine HT.out.mono ?_;rintro e w2 ⟨rfl,m2,B2⟩;have R2:=B2.bj;have kt:({S with Eg:=(S.Eg.take g).1}:Wd).gs[g]?=some x:=HX.out;have g15:=R2.g kt 15 _ rfl;have ZB:=R2.frozen R2.aB.gs (g*25+15);have g2:=R2.g kt 2 _ rfl;have fg2:=R2.frozen R2.aB.gs (g*25+2);have A2:=OS.out.cont B2;have A3:=A2.g kt {x with res:={x.res with aJ:=6}} (q:=15) (v:=I 6);have A4:=A3.g (az kt) {x with res:={x.res with aJ:=6},ae:=16} (q:=2) (v:=I 16);rw[aA]at A4;have BX:=ag A4;clear A2 A3 A4 R2 kt B2)
  refine bodyPost_ret (results_none rfl _ _ _) rfl ?_;exact⟨rfl,_,BX⟩
end
section
variable{af:Nat}{F:Fx}{w w0 w':World}{m m0 m':Mem}{S S':Wd}{L:List (Nat×Obj)}
theorem bz.UF(R:bz af F w m S):w.cell? ⟨F.gN,0,none⟩=some (m.cU .list S.list.length):=R.cell R.aB.gN (j:=0) rfl
theorem bz.HU(R:bz af F w m S):w.cell? ⟨F.gN,1,none⟩=some (I S.drawn):=R.cell R.aB.gN (j:=1) rfl
theorem At.drawn(A:At af F m0 w0 m w S)(n:Int):At af F m0 w0 m (w.setCell ⟨F.gN,1,none⟩ (I n)) {S with drawn:=n}:=by
 refine A.set A.bj.aB.gN rfl ?_;exact bf2
section
variable(R:bz af F w m S)(n:Int)(hn:1≤n∧n≤100000)
include R n hn
theorem Ss(d:Int)(hd:S.drawn=d)(h:(S.list.length:Int)≤d):Calls prog 197 #[.pointer (some ⟨F.gN,0,none⟩),I n] w (eL (I 0) fun w'=>At af F m w m w' S):=by
 have c0:=R.UF;have c1:=R.HU;obtain⟨a,c,hh⟩:=R.shape (r:=.list) (n:=S.list.length) bn5;rw[hh]at c0;rw[hd]at c1;obtain⟨k,hk⟩:=dC (S.list.length);rw[←hk]at c0 h;have hb:decide ((k:Int)≤d)=true:=bj3
 have gq:decide (n<1)=false:=bi8
 have HA:=ag (At.refl R);clear R hd hh hk h;go_enter func197,ntmps197;go_wp2_with fail
 go_quiet (fail);exact bv3
theorem Oa(d:Nat)(hd:S.drawn=d)(hd9:d≤1000000)(v:Int)(h:S.list[d]?=some v)(hv:0≤v∧v≤65535):Calls prog 197 #[.pointer (some ⟨F.gN,0,none⟩),I n] w (eL (I (v % n)) fun w'=>At af F m w m w' {S with drawn:=d+1}):=by
 have c0:=R.UF;have c1:=R.HU;have fc1:=R.frozen R.aB.gN 1;have Lw:d<S.list.length:=cA h;obtain⟨b,hb⟩:=R.has (r:=.list) (by simp only[aj];intro e;rw[List.map_eq_nil_iff]at e;rw[e]at Lw;simp at Lw);have cv:w.cell? ⟨b,d,none⟩=some (U v):=R.cell hb (by simp only[aj,na,h,km]);rw[Mem.de hb]at c0;rw[hd]at c1;obtain⟨k,hk⟩:=dC (S.list.length);rw[←hk]at c0 Lw;have oH:decide ((k:Int)≤(d:Int))=false:=bi8
 have gq:decide (n<1)=false:=bi8
 have hw:IntKind.i64.wrap v=v:=jX _ oX;have ht:v.tmod n=v % n:=Int.tmod_eq_emod_of_nonneg hv.1;have nt:IntKind.i64.wrap (v % n)=v % n:=jX _ (by have:=Int.emod_nonneg v (show n≠0 by omega);have:=Int.emod_lt_of_pos v (show 0<n by omega);omega);have hz:¬n=0:=oX
 have dD:=R.lt R.aB.gN;have ax9:=R.lt hb;have cM:=R.ne hb R.aB.gN;have xw:=cM.symm;have HA:=ag ((At.refl R).drawn (d+1));clear R hd hk h hb;go_enter func197,ntmps197;go_wp2_with fail
 go_quiet (fail);go_wp2_with fail
 go_quiet (fail);go_wp2;trace_state;go_ret;exact⟨rfl,HA.out.aI⟩
end
theorem DN(rb:Nat)(n:Int)(W:World)(h:W.cell? ⟨rb,2,none⟩=some (I n)):Calls prog 203 #[.pointer (some ⟨rb,0,none⟩)] W fun e w'=>e=.returned (I n)∧W=w':=by
 go_enter func203,ntmps203;exact aW5
theorem tu(rb:Nat)(a:Option Addr)(n c:Nat)(W:World)(h:W.cell? ⟨rb,0,none⟩=some (.slice a n c)):Calls prog 53 #[.pointer (some ⟨rb,0,none⟩)] W fun e w'=>e=.returned (I n)∧W=w':=by
 go_enter func53,ntmps53;exact aW5
theorem Tj(R:bz af F w m S)(o:cu)(ca:Option Addr)(cn cc:Nat)(gv:cZ S o.ch=false):Calls prog 143 #[bR F,.agg #[I o.ai,I o.ch,I o.n,I o.v,.slice ca cn cc,B o.dG]] w (eL (I 0) fun w'=>At af F m w m w' S):=by
 have HA:=ag ((At.refl R).alloc (.cells #[I o.ai,I o.ch,I o.n,I o.v,.slice ca cn cc,B o.dG] 49));have HM:=ag (gJ HA.out.bj o.ch);rw[gv]at HM;clear R gv;unfold bR;go_enter func143,ntmps143;go_wp2_with (go_at_call 138;refine HM.out.mono ?_;rintro e w' ⟨rfl,rfl⟩);go_ret;exact⟨rfl,HA⟩
section
variable(R:bz af F w m S)(o:cu)(bO:eX o.ch)(ca:Option Addr)(cn cc:Nat)
include R o bO ca cn cc
theorem PU(gv:cZ S o.ch=true)(c:Nat)(hc:o.ch=c+1)(r:Ring)(hr:S.au[c]?=some r):Calls prog 143 #[bR F,.agg #[I o.ai,I o.ch,I o.n,I o.v,.slice ca cn cc,B o.dG]] w (eL (I (if o.ai=7 then r.count else r.room)) fun w'=>At af F m w m w' S):=by
 have HA:=ag ((At.refl R).alloc (.cells #[I o.ai,I o.ch,I o.n,I o.v,.slice ca cn cc,B o.dG] 49));have HM:=ag (gJ HA.out.bj o.ch);rw[gv]at HM;obtain⟨rr,rb,pL,fA,c5,cp⟩:=R.iJ hr;obtain⟨Hw,gr,a,cq,hh,k0,k1,k2,_⟩:=R.eU hr;rw[fA]at gr
 cases gr;have gm:c<S.au.length:=cA hr;have hs:IntKind.i64.wrap (o.ch-1)=(c:Int):=bv4
 have WM:=R.lt R.aB.al;have O8:=R.lt pL;have wU:=R.lt fA;unfold Ring.room;obtain⟨n,hn⟩:=dC (r.places.length);rw[←hn]at k0 ⊢;have HL:=ag (fun W h=>DN rb r.count W h);have HR:=ag (fun W h=>tu rb a n cq W h);have hq0:∀(x:Nat),((w.alloc (.cells #[I o.ai,I o.ch,I o.n,I o.v,.slice ca cn cc,B o.dG] 49)).drewN x).cell? ⟨rb,0,none⟩=w.cell? ⟨rb,0,none⟩:=fun x=>kZ (a:=⟨rb,0,none⟩) (gf w _ rb wU)
 have hq2:∀(x:Nat),((w.alloc (.cells #[I o.ai,I o.ch,I o.n,I o.v,.slice ca cn cc,B o.dG] 49)).drewN x).cell? ⟨rb,2,none⟩=w.cell? ⟨rb,2,none⟩:=fun x=>kZ (a:=⟨rb,2,none⟩) (gf w _ rb wU)
 have Q2:Hid (∀(x:Nat),Calls prog 203 #[.pointer (some ⟨rb,0,none⟩)] ((w.alloc (.cells #[I o.ai,I o.ch,I o.n,I o.v,.slice ca cn cc,B o.dG] 49)).drewN x) fun e w'=>e=.returned (I r.count)∧w'=((w.alloc (.cells #[I o.ai,I o.ch,I o.n,I o.v,.slice ca cn cc,B o.dG] 49)).drewN x)):=fun x=>(HL _ ((hq2 x).trans k2)).mono fun e w' h=>⟨h.1,h.2.symm⟩
 have Q0:Hid (∀(x:Nat),Calls prog 53 #[.pointer (some ⟨rb,0,none⟩)] ((w.alloc (.cells #[I o.ai,I o.ch,I o.n,I o.v,.slice ca cn cc,B o.dG] 49)).drewN x) fun e w'=>e=.returned (I n)∧w'=((w.alloc (.cells #[I o.ai,I o.ch,I o.n,I o.v,.slice ca cn cc,B o.dG] 49)).drewN x)):=fun x=>(HR _ ((hq0 x).trans k0)).mono fun e w' h=>⟨h.1,h.2.symm⟩
 by_cases hk:o.ai=7
 ·rw[aF hk];have hb:(o.ai==7)=true:=by simpa using hk
  clear R gv hr pL fA hh hn hk hq0 hq2 HL HR k0 k2 hc;unfold bR;go_enter func143,ntmps143;go_wp2_with (go_at_call 138;refine HM.out.mono ?_;rintro e w' ⟨rfl,rfl⟩);go_quiet ((go_at_call 203;exact Calls.quiet_of_same (Q2 _)));exact bv3
 ·rw[aE hk];have hb:(o.ai==7)=false:=by simpa using hk
  clear R gv hr pL fA hh hn hk hq0 hq2 HL HR k0 k2 hc;unfold bR;go_enter func143,ntmps143;go_wp2_with (go_at_call 138;refine HM.out.mono ?_;rintro e w' ⟨rfl,rfl⟩);go_quiet ((go_at_call 53;exact Calls.quiet_of_same (Q0 _)));exact bv3
theorem Mt(n:Int)(hm:wQ S o=some n):Calls prog 143 #[.pointer (some ⟨F.al,0,none⟩),.agg #[I o.ai,I o.ch,I o.n,I o.v,.slice ca cn cc,B o.dG]] w (eL (I n) fun w'=>At af F m w m w' S):=by
 unfold wQ at hm
 cases gv:cZ S o.ch with
 |false=>rw[aF gv]at hm;cases hm;exact Tj R o ca cn cc gv
 |true=>
  rw[aE (by simp[gv])]at hm;simp only[aH5]at hm;obtain⟨⟨c,r⟩,tS,hm⟩:=hm;obtain⟨Wi,hr⟩:=kx tS;subst hm;exact PU R o bO ca cn cc gv c Wi r hr
end
end
def gC(w:World)(a:Option Addr)(n:Nat)(cs:List Value):Prop:=0<n→∃b off,a=some ⟨b,off,none⟩∧∀j u,cs[j]?=some u→w.cell? ⟨b,off+j,none⟩=some u
theorem gC.below{w w':World}{a:Option Addr}{n B:Nat}{cs:List Value}(h:gC w a n cs)(hb:Below B w w')(hB:w.heap.size≤B):gC w' a n cs:=fun h0=>by
 obtain⟨b,off,e,h1⟩:=h h0;exact⟨b,off,e,fun j u hu=>cw hb hB _ _ (h1 j u hu)⟩
theorem gC.nil(w:World)(a:Option Addr)(cs:List Value):gC w a 0 cs:=fun h=>aX h oX
section
variable{w w':World}{hb:Option Addr}{n cap size:Nat}{e:TypeId}{cs:List Value}(h:hb=none∧n=0∧cap=0∨hb=some ⟨w.heap.size,0,none⟩∧w'.ownsRow w.heap.size e size (.slice (some ⟨w.heap.size,0,none⟩) n cap) n cs)
include h
theorem gC.qE:gC w' hb n cs:=by
 rcases h with⟨rfl,rfl,rfl⟩|⟨rfl,h⟩
 ·exact gC.nil _ _ _
 ·intro h0;exact bb1
theorem pG:∀b off,hb=some ⟨b,off,none⟩→w.heap.size≤b∧b<w'.heap.size:=by
 intro b off e;rcases h with⟨h1,_⟩|⟨h1,h2⟩
 ·rw[h1]at e;cases e
 ·rw[h1]at e;cases e;obtain⟨_,hl⟩:=gl.kg (ty:=none) (p:=(_,size)) (fun q h=>bk0) h2;exact⟨Nat.le_refl _,hl.lt⟩
end
section
variable{w:World}{a:Option Addr}{n cap size lo:Nat}{e:TypeId}{cs:List Value}(h:w.ownsRow lo e size (.slice a n cap) n cs)
include h
theorem gC.tO:gC w a n cs:=by
 intro h0;rcases h.2 with⟨h1,h2⟩|⟨g,pF,cur,h1,_⟩
 ·omega
 ·simp only[Value.slice.injEq]at h1;obtain⟨rfl,_,rfl⟩:=h1;exact bb1
theorem lJ:∀b off,a=some ⟨b,off,none⟩→lo≤b∧b<w.heap.size:=by
 intro b off e;rcases h.2 with⟨h1,h2⟩|⟨g,pF,cur,h1,h2,_⟩
 ·simp only[Value.slice.injEq]at h1;rw[h1.1]at e;cases e
 ·simp only[Value.slice.injEq]at h1;obtain⟨rfl,_,rfl⟩:=h1
  cases e;obtain⟨_,hl⟩:=gl.kg (ty:=none) (p:=(_,size)) (fun q h=>bk0) h;exact⟨h2,hl.lt⟩
end
section
variable{af:Nat}{F:Fx}{w w0:World}{m m0:Mem}{S:Wd}
theorem bz.Ib(R:bz af F w m S){r:bH}{n:Nat}(h:aj m S r=[]→n=0):∃a c,m.cU r n=.slice a n c∧gC w a n (aj m S r):=by
 cases hb:m.aV r with
 |none=>
  have:=h (R.none_ r hb);subst this;exact⟨none,0,Mem.j6 hb _,gC.nil _ _ _⟩
 |some b=>exact⟨_,_,Mem.de hb _,fun _=>⟨b,0,rfl,fun j u hu=>by rw[Nat.zero_add];exact R.cell hb hu⟩⟩
theorem qF{α:Type}{f:α→Value}{l:List α}(h:l.map f=[]):l.length=0:=bj3
section
variable(R:bz af F w m S)
include R
theorem ET(hl:S.Eg.aK.length≤1000):Calls prog 46 #[.pointer (some ⟨F.Eg,0,none⟩)] w fun e w'=>∃a c,e=.returned (.slice a S.Eg.aK.length c)∧gC w' a S.Eg.aK.length (S.Eg.aK.map I)∧Below w.heap.size w w'∧∀b off,a=some ⟨b,off,none⟩→w.heap.size≤b∧b<w'.heap.size:=by
 obtain⟨i0,hi,fV,gF,gG⟩:=info_parts lC;obtain⟨a,c,h1,h2⟩:=R.Ib (r:=.aK) (n:=S.Eg.aK.length) qF;have c3:=R.uK;rw[h1]at c3;obtain⟨n,hn⟩:=dC (S.Eg.aK.length);obtain⟨cs,fa⟩:=dC (S.Eg.aK.map I);have cP:cs.length=n*1:=by rw[fa,hn];simp
 have H2:Hid (0<n→∃b off,a=some ⟨b,off,none⟩∧∀j u,cs[j]?=some u→w.cell? ⟨b,off+j,none⟩=some u):=by rw[fa,hn];exact h2
 have H1:Hid (∀u∈cs,u.oneCell'=true):=by rw[fa];exact ints_oneCell _ _
 rw[←hn]at c3 hl ⊢;rw[←fa];have HL:=ag cP;clear R h1 h2 hn fa cP;go_enter func46,ntmps46;go_wp2_with (at_builtin;go_loud (refine gu rfl _ _ 28 rfl underlying28 hi fV gF gG rfl dX dX rfl a n c rfl cs HL H2 H1 oX ?_));intro hb lK w2 EU rj;have HS:=ag (gC.qE rj);have UG:=ag (pG rj);have HB:Hid (Below w.heap.size w w2):=(fp _ _).grown EU cG bj7;clear rj EU;go_wp2;go_ret;exact⟨hb,lK,rfl,HS,HB,UG⟩
theorem Ic:Calls prog 47 #[.pointer (some ⟨F.Eg,0,none⟩)] w (eL (I S.Eg.cO) fun w'=>w=w'):=by
 have c4:=R.Ho;clear R;go_enter func47,ntmps47;exact aW5
theorem EV:Calls prog 48 #[.pointer (some ⟨F.gN,0,none⟩)] w (eL (I S.drawn) fun w'=>w=w'):=by
 have c4:=R.HU;clear R;go_enter func48,ntmps48;exact aW5
end
theorem Ie(n:Nat)(hn:1≤n∧n≤1000)(w:World):Calls prog 57 #[I n] w (eL (I (2*n-2)) fun w'=>w=w'):=by
 go_enter func57,ntmps57;go_wp2;go_ret;exact⟨bl2,rfl⟩
theorem Ig(n:Nat)(hn:1≤n∧n≤1000)(w:World):Calls prog 58 #[I n] w (eL (I (2*n-1)) fun w'=>w=w'):=by
 go_enter func58,ntmps58;go_wp2;go_ret;exact⟨bl2,rfl⟩
theorem EW(R:bz af F w m S)(g:Nat)(c:List Int)(hc:S.Eg.aC[g]?=some c)(hl:c.length≤1000)(gm:S.Eg.aC.length≤1000):Calls prog 52 #[.pointer (some ⟨F.Eg,0,none⟩),I g] w fun e w'=>∃a cp,e=.returned (.slice a c.length cp)∧gC w' a c.length (c.map I)∧Below w.heap.size w w'∧∀b off,a=some ⟨b,off,none⟩→w.heap.size≤b∧b<w'.heap.size:=by
 obtain⟨i0,hi,fV,gF,gG⟩:=info_parts lC;have jM:aj m S (.cache g)=c.map I:=by simp only[aj,hc]
 obtain⟨a,cp,h1,h2⟩:=R.Ib (r:=.cache g) (n:=c.length) (by rw[jM];exact qF);rw[jM]at h2;have eM:=fm hc;have c2:=R.pf;have ch:=R.tH hc;rw[h1]at ch;obtain⟨n,hn⟩:=dC (c.length);obtain⟨N,hN⟩:=dC (S.Eg.aC.length);obtain⟨cs,fa⟩:=dC (c.map I);have cP:cs.length=n*1:=by rw[fa,hn];simp
 have H2:Hid (0<n→∃b off,a=some ⟨b,off,none⟩∧∀j u,cs[j]?=some u→w.cell? ⟨b,off+j,none⟩=some u):=by rw[fa,hn];exact h2
 have H1:Hid (∀u∈cs,u.oneCell'=true):=by rw[fa];exact ints_oneCell _ _
 rw[←hn]at ch hl ⊢;rw[←hN]at c2 eM gm;rw[←fa];have HL:=ag cP;clear R h1 h2 hn fa cP jM hc hN;go_enter func52,ntmps52;go_wp2_with (first|(at_builtin;go_loud (refine gu rfl (.const (.slice none 0 0)) (.tmp 15) 28 rfl underlying28 hi fV gF gG rfl dX dX rfl a n cp rfl cs HL H2 H1 oX ?_))|go_in);intro hb lK w2 EU rj;have HS:=ag (gC.qE rj);have UG:=ag (pG rj);have HB:Hid (Below w.heap.size w w2):=(fp _ _).grown EU cG bj7;clear rj EU;go_wp2;go_ret;exact⟨hb,lK,rfl,HS,HB,UG⟩
def uU(l:List Nat):List Value:=l.map fun(x:Nat)=>I ((x:Nat):Int)
theorem yN(R:bz af F w m S){ls:List (List Nat)}(q:V.xQ S.aw ls)(k:Nat)(l:List Nat)(hk:ls[k]?=some l)(hl:l.length≤1000)(vA:S.aw.bM.length≤1000)(htl:S.aw.aS.length≤1000):Calls prog 56 #[.pointer (some ⟨F.aw,0,none⟩),I k] w fun e w'=>∃a c,e=.returned (.slice a l.length c)∧gC w' a l.length (uU l)∧Below w.heap.size w w'∧∀b off,a=some ⟨b,off,none⟩→w.heap.size≤b∧b<w'.heap.size:=by
 obtain⟨i0,hi,fV,gF,gG⟩:=info_parts lC;have sN:∀W:World,(Instr.makeSlice 28 (I 0) (I l.length)).run prog W=.ok (.slice (some ⟨W.heap.size,0,none⟩) 0 l.length) (W.alloc (.cells (madeCells (I 0).cells (l.length*i0.size)) 3)):=fun W=>av9 (P:=prog) 28 3 i0 _ underlying28 hi fV .i64 .i64 0 l.length (Nat.zero_le _) bk6 oX W
 rw[gF]at sN;have ai8:k<S.aw.bM.length:=by rw[q.len];exact fm hk
 have UI:=q.line k l hk;obtain⟨L0,L1,L2⟩:=R.line UI;have c1:=R.yq;have lt1:=R.lt R.aB.aw;have lt2:=R.lt R.aB.bM;obtain⟨NL,hNL⟩:∃N,N=S.aw.bM.length:=⟨_,rfl⟩;rw[←hNL]at c1 ai8 vA;obtain⟨n,hn⟩:=dC (l.length);rw[←hn]at sN hl ⊢;simp only at L0 L1 L2;rw[←hn]at L2;obtain⟨HR,HQ,HK,Hn⟩:=ia R q hk hn;obtain⟨x0,Hm⟩:=dC (V.BC l);rw[←Hm]at L0;have HX0:=ag Hm;clear R q hk hn UI hNL Hm L1;go_enter func56,ntmps56;go_wp2_with go_in;have jf:Hid (∃cp,(w.alloc (.cells (madeCells #[I 0] n) 3)).ownsRow w.heap.size 3 1 (.slice (some ⟨w.heap.size,0,none⟩) 0 cp) 0 (uU (l.take 0))∧cp=n∧Below w.heap.size w (w.alloc (.cells (madeCells #[I 0] n) 3))):=by refine⟨n,⟨rfl,.inr ⟨w.heap.size,n,_,rfl,Nat.le_refl _,dP _ _,Nat.zero_le _,bj4,by simp[size_madeCells],by simp[uU]⟩⟩,rfl,(fp _ _).alloc cG _⟩
 clear sN c1 L0 L2;go_loopw [5,6] (fun out x wr=>∃(j g cp:Nat),out=.slice (some ⟨g,0,none⟩) j cp∧j≤n∧x=I (V.BC (l.drop j))∧Hid (wr.ownsRow w.heap.size 3 1 (.slice (some ⟨g,0,none⟩) j cp) j (uU (l.take j))∧Below w.heap.size w wr)) (fun out _ _=>n-(match out with| .slice _ j _=>j|_=>0))
 case atStart=>
  obtain⟨cp,h1,h2,h3⟩:=jf.out;subst h2;exact⟨0,w.heap.size,cp,rfl,oX,by rw[rC,←HX0.out],h1,h3⟩
 case round=>
  clear jf;obtain⟨j,g,cp,rfl,hj,rfl,HW⟩:=hrel;by_cases dD:j<n
  ·obtain⟨y,hy⟩:∃y,l[j]?=some y:=⟨_,fv bk8⟩;have cU:l.drop j=y::l.drop (j+1):=by obtain⟨h1,rfl⟩:=uC hy;exact List.drop_eq_getElem_cons h1
   have Ax:l=l.take j++y::l.drop (j+1):=(by rw[←cU,List.take_append_drop]);have N5:=HQ.out.thing k (l.take j) (l.drop (j+1)) y (by rw[←Ax];exact HK);have hyl:y<S.aw.aS.length:=fm N5;rw[cU,V.lF];obtain⟨NT,hNT⟩:∃N,N=S.aw.aS.length:=⟨_,rfl⟩;rw[←hNT]at hyl htl;have VJ:=ag N5;have HY:=ag (dO hy hNT);have qq:w.heap.size≤wr.heap.size:=HW.out.2.size;have nv:=ag HW.out.1;clear N5 cU Ax hy hNT;go_wp2_with (first|(at_builtin;go_loud (refine od (us:=#[I y]) (w2:=wr) rfl (.tmp 38) (.tmp 40) 28 rfl underlying28 hi fV gF gG rfl dX dX rfl rfl bi9 (.slice (some ⟨g,0,none⟩) j cp) j _ rfl nv wr.heap.size rfl rfl oX qq ?_)));intro g2 On w3 ah8 hgr gp
   have yJ:Below w.heap.size w w3:=by
    refine(HW.out.2.alloc qq _).grown hgr bi8 (fun b hb=>?_);simp[Value.ownBlock]at hb;subst hb;rcases nv.out.2 with⟨h1,h2⟩|⟨g',_,_,h1,h2,_⟩
    ·cases h1
    ·exact bg9
   have R3:=HR.out.below yJ;have c0:=R3.xN;rw[←HY.out.2]at c0;have t1:=(R3.thing VJ).2.1;have HN:Hid (w3.ownsRow w.heap.size 3 1 (.slice (some ⟨g2,0,none⟩) (j+1) On) (j+1) (uU (l.take (j+1)))∧Below w.heap.size w w3):=(by refine⟨?_,yJ⟩;rw[ox HY.out.1];unfold uU at ah8 ⊢;simpa using ah8);clear HW nv ah8 hgr gp yJ R3 qq;go_wp2;go_roundw
   case rel=>exact⟨j+1,g2,On,sX,oX,rfl,HN⟩
   case measure=>(try simp);omega
  ·obtain rfl:j=n:=by omega
   have kK:l.drop j=[]:=(by rw[Hn.out];exact List.drop_length);rw[kK,V.CE];clear kK;go_wp2;go_ret;obtain⟨h1,h2⟩:=HW.out;rw[Hn.out,List.take_length,←Hn.out]at h1;exact⟨_,_,rfl,gC.tO h1,h2,lJ h1⟩
end
def eF(lo:Nat)(w0 w:World)(f:bH→Option oJ):Prop:=cN lo w0 w (fun k=>(f k).bind (·.1)) eI (fun k=>((f k).map (·.2.1)).getD 0) (fun k=>((f k).map (·.2.2)).getD [])
section
variable{lo:Nat}{w0 w w':World}{f:bH→Option oJ}
theorem DL{β:Type}(g:Option oJ→β)(f:bH→Option oJ)(r:bH)(e:Option oJ)(x:β)(h:g e=x):(fun k=>g (up f r e k))=up (fun k=>g (f k)) r x:=by
 funext k;by_cases hk:k=r
 ·subst hk;rw[bq,bq,h]
 ·rw[aD _ _ hk,aD _ _ hk]
theorem eF.PL{r:bH}{b cp:Nat}{xs:List Value}(h:cN lo w0 w (up (fun k=>(f k).bind (·.1)) r (some b)) eI (up (fun k=>((f k).map (·.2.1)).getD 0) r cp) (up (fun k=>((f k).map (·.2.2)).getD []) r xs)):eF lo w0 w (up f r (some (some b,cp,xs))):=by
 unfold eF;rw[DL (fun e=>e.bind (·.1)) f r _ (some b) rfl,DL (fun e=>(e.map (·.2.1)).getD 0) f r _ cp rfl,DL (fun e=>(e.map (·.2.2)).getD []) f r _ xs rfl];exact h
theorem eF.congr(H:eF lo w0 w f){f':bH→Option oJ}(h:∀k,f' k=f k):eF lo w0 w f':=by
 have:f'=f:=funext h;subst this;exact H
theorem eF.eC(H:eF lo w0 w f)(hb:Below w.heap.size w w'):eF lo w0 w' f:=cN.eC H hb
theorem eF.drew(H:eF lo w0 w f):eF lo w0 w.drew f:=cN.drew H
theorem eF.alloc(H:eF lo w0 w f)(o:Obj):eF lo w0 (w.alloc o) f:=cN.alloc H o
theorem eF.uw(H:eF lo w0 w f):Below lo w0 w∧lo≤w.heap.size:=⟨cN.below H,cN.tL H⟩
theorem eF.cell(H:eF lo w0 w f){r:bH}{b cp j:Nat}{xs:List Value}(h:f r=some (some b,cp,xs)){v:Value}(hv:xs[j]?=some v):w.cell? ⟨b,j,none⟩=some v:=
 cN.cell H (k:=r) br5 (by simp only[h];exact hv)
theorem eF.frozen(H:eF lo w0 w f){r:bH}{b cp:Nat}{xs:List Value}(h:f r=some (some b,cp,xs))(j:Nat):w.frozen? ⟨b,j,none⟩=false:=
 cN.frozen H (k:=r) br5 j
theorem eF.lt(H:eF lo w0 w f){r:bH}{b cp:Nat}{xs:List Value}(h:f r=some (some b,cp,xs)):lo≤b∧b<w.heap.size:=
 ⟨(cN.lies H r b br5).1,cN.lt H (k:=r) br5⟩
theorem eF.set(H:eF lo w0 w f){r:bH}{b cp j:Nat}{xs:List Value}{v:Value}(h:f r=some (some b,cp,xs)):eF lo w0 (w.setCell ⟨b,j,none⟩ v) (up f r (some (some b,cp,xs.set j v))):=by
 have O:=cN.set H (r:=r) (b:=b) (j:=j) (v:=v) br5;simp only[h,km,Option.getD_some]at O;unfold eF;rw[DL (fun e=>(e.map (·.2.2)).getD []) f r _ (xs.set j v) rfl]
 have e1:(fun k=>((up f r (some (some b,cp,xs.set j v)) k).bind (·.1)))=fun k=>(f k).bind (·.1):=by
  funext k;by_cases hk:k=r
  ·subst hk;rw[bq,h];rfl
  ·rw[aD _ _ hk]
 have e2:(fun k=>((up f r (some (some b,cp,xs.set j v)) k).map (·.2.1)).getD 0)=fun k=>((f k).map (·.2.1)).getD 0:=by
  funext k;by_cases hk:k=r
  ·subst hk;rw[bq,h];rfl
  ·rw[aD _ _ hk]
 rw[e1,e2];exact O
theorem eF.same(H:eF lo w0 w f){r:bH}{b cp j:Nat}{xs:List Value}{v:Value}(h:f r=some (some b,cp,xs))(hv:xs[j]?=some v):eF lo w0 (w.setCell ⟨b,j,none⟩ v) f:=by
 refine(H.set (v:=v) (j:=j) h).congr fun k=>?_
 by_cases hk:k=r
 ·subst hk;rw[bq,h];obtain⟨h1,h2⟩:=uC hv;rw[←h2,List.set_getElem_self h1]
 ·rw[aD _ _ hk]
theorem eF.add(H:eF lo w0 w f){r:bH}{b cp:Nat}{xs:List Value}(hb:Below w.heap.size w w')(h0:w.heap.size≤b)(hl:gl w' b (eI r) cp xs):eF lo w0 w' (up f r (some (some b,cp,xs))):=eF.PL (cN.add H hb h0 hl)
theorem eF.put(H:eF lo w0 w f){r:bH}{b cp:Nat}{xs:List Value}(h0:lo≤b)(cM:∀k c q ys,f k=some (some c,q,ys)→c≠b)(hl:gl w b (eI r) cp xs):eF lo w0 w (up f r (some (some b,cp,xs))):=by
 refine eF.PL (cN.put H h0 (fun k b' hk=>?_) hl)
 cases hf:f k with
 |none=>rw[hf]at hk;cases hk
 |some e=>
  obtain⟨eb,q,ys⟩:=e;rw[hf]at hk;have hk:eb=some b':=hk;subst hk;exact cM k b' q ys hf
theorem eF.row(H:eF lo w0 w f){r:bH}{p:Nat×Nat}{g n cp:Nat}{xs:List Value}(nI:∀q,eI r=some q→q=p)(hg:w.grownBy w' ((f r).bind (·.1)))(hown:w'.ownsRow lo p.1 p.2 (.slice (some ⟨g,0,none⟩) n cp) n xs)(bE:(f r).bind (·.1)=some g∨w.heap.size≤g):eF lo w0 w' (up f r (some (some g,cp,xs))):=eF.PL (cN.row H nI hg hown bE)
theorem eF.aa6(H:eF lo w0 w f){r1 r2 r3:bH}{b1 b2 b3 q1 q2 q3:Nat}{x1 x2 x3:List Value}(A:eh w.heap.size w w' [(r1,some b1,q1,x1),(r2,some b2,q2,x2),(r3,some b3,q3,x3)]):eF lo w0 w' (up (up (up f r1 (some (some b1,q1,x1))) r2 (some (some b2,q2,x2))) r3 (some (some b3,q3,x3))):=by
 have l1:=A.lies (r1,some b1,q1,x1) sX b1 rfl;have l2:=A.lies (r2,some b2,q2,x2) sX b2 rfl;have l3:=A.lies (r3,some b3,q3,x3) sX b3 rfl;have fX:=A.nd;simp at fX;have ja:=H.uw.2;have br:∀k c q ys,f k=some (some c,q,ys)→c<w.heap.size:=fun k c q ys h=>(H.lt h).2
 have o1:=H.add A.below l1.1 l1.2
 have o2:=o1.put (r:=r2) (b:=b2) (cp:=q2) (xs:=x2) oX (fun k c q ys h=>by
  by_cases hk:k=r1
  ·subst hk;rw[bq]at h;cases h;exact fX.1.1
  ·rw[aD _ _ hk]at h;have:=br k c q ys h;omega) l2.2
 refine o2.put (r:=r3) (b:=b3) (cp:=q3) (xs:=x3) oX (fun k c q ys h=>?_) l3.2;by_cases hk:k=r2
 ·subst hk;rw[bq]at h;cases h;exact fX.2
 ·rw[aD _ _ hk]at h;by_cases hk:k=r1
  ·subst hk;rw[bq]at h;cases h;exact fX.1.2
  ·rw[aD _ _ hk]at h;have:=br k c q ys h;omega
def Ch(j:Nat):bH→Option CK
 | .ops i=>if i=j then some (some (.ops 0))else none
 | .cases i q=>if i=j then some (some (.cases 0 q))else none
 |_=>none
theorem Te{j:Nat}{r r':bH}{k:CK}(h:Ch j r=some k)(h':Ch j r'=some k):r=r':=by
 cases r<;>cases r'<;>simp only[Ch]at h h'<;>(first|(cases h;done)|(cases h';done)|skip)
 all_goals
  split at h<;>split at h'
  all_goals first
   |(cases h;done)
   |(cases h';done)
   |(have e:=h.trans h'.symm;simp only[oZ,bH.ops.injEq,bH.cases.injEq,reduceCtorEq,true_and]at e;simp_all;done)
   |(have e:=h.trans h'.symm;simp only[oZ,bH.ops.injEq,bH.cases.injEq,reduceCtorEq,true_and]at e)
theorem WK{j:Nat}{r:bH}{k:CK}(h:Ch j r=some k):eI r=none:=by
 cases r<;>first|rfl|(simp[Ch]at h)
def iK(j:Nat)(f:bH→Option oJ)(aV:CK→Option Nat)(cap:CK→Nat)(c:CK→List Value):bH→Option oJ:=fun r=>match Ch j r with
 |some k=>some (aV k,cap k,c k)
 |none=>f r
theorem eF.clone(H:eF lo w0 w f){j:Nat}{ty:CK→Option (Nat×Nat)}{aV:CK→Option Nat}{cap:CK→Nat}{c:CK→List Value}(O:cN w.heap.size w w' aV ty cap c):eF lo w0 w' (iK j f aV cap c):=by
 have H':=H.eC O.below;have N9:∀r k,Ch j r=some k→iK j f aV cap c r=some (aV k,cap k,c k):=fun r k h=>by unfold iK;rw[h]
 have eJ:∀r,Ch j r=none→iK j f aV cap c r=f r:=fun r h=>by unfold iK;rw[h]
 refine⟨cN.below H',cN.tL H',fun r r' b h h'=>?_,fun r b h=>?_,fun r h=>?_⟩
 ·cases hp:Ch j r with
  |none=>
   rw[eJ r hp]at h
   cases vT:Ch j r' with
   |none=>rw[eJ r' vT]at h';exact cN.inj H r r' b h h'
   |some k'=>
    rw[N9 r' k' vT]at h';have h1:=(O.lies k' b h').1;have h2:=cN.lt H h;omega
  |some k=>
   rw[N9 r k hp]at h
   cases vT:Ch j r' with
   |none=>
    rw[eJ r' vT]at h';have h1:=(O.lies k b h).1;have h2:=cN.lt H h';omega
   |some k'=>
    rw[N9 r' k' vT]at h';have:=O.inj k k' b h h';subst this;exact Te hp vT
 ·cases hp:Ch j r with
  |none=>rw[eJ r hp]at h ⊢;exact cN.lies H' r b h
  |some k=>
   rw[N9 r k hp]at h ⊢;obtain⟨h1,arr,t,a1,a2,a3,a4⟩:=O.lies k b h;exact⟨by have:=H.uw.2;omega,arr,t,a1,a2,a3,fun p hq=>by rw[WK hp]at hq;cases hq⟩
 ·cases hp:Ch j r with
  |none=>rw[eJ r hp]at h ⊢;exact cN.none_ H' r h
  |some k=>rw[N9 r k hp]at h ⊢;exact O.none_ k h
theorem eF.others(H:eF lo w0 w f){b:Nat}(hn:∀k c q ys,f k=some (some c,q,ys)→c≠b)(h0:lo≤b)(j:Nat)(v:Value):eF lo w0 (w.setCell ⟨b,j,none⟩ v) f:=by
 refine cN.other H (a:=⟨b,j,none⟩) (fun k e=>?_) h0 v
 cases hf:f k with
 |none=>simp only[hf]at e;cases e
 |some y=>
  obtain⟨eb,q,ys⟩:=y;simp only[hf]at e;have e:eb=some b:=e;subst e;exact hn k b q ys hf rfl
theorem eF.KD(H:eF lo w0 w f){b:Nat}(hn:∀k c q ys,f k=some (some c,q,ys)→c≠b)(h0:lo≤b):∀(vs:List Value) (j:Nat) (W:World),eF lo w0 W f→eF lo w0 (W.setCells b j vs) f
 | [],_,_,h=>h
 |v::vs,j,W,h=>eF.KD H hn h0 vs (j+1) _ (h.others hn h0 j v)
end
section
variable{P:Program}{ops:Array Oper}{o:Oper}{a:Act}
theorem tt{w:World}{K:Act→World→Prop}{Q:Exit→Act→World→Prop}{E:Prop}(nX:o.guard=none)(ty:TypeId)(x:Operand)(ho:o.op=.load ty x)(b off:Nat)(hx:a.eval x=.pointer (some ⟨b,off,none⟩))(cs:Array Value)(hc:∀j v,cs[j]?=some v→w.cell? ⟨b,off+j,none⟩=some v)(hu:∃d,P.underlying ty=some d∧(match d with| .struct _| .array _ _=>true|_=>false)=true)(hi:(P.info? ty).map (·.size)=some cs.size)(h:K (a.put o.dst (.agg cs)) w):if Region.wanted o (yielded ops a.tmps)=true then Oper.wp P o a w K Q else E:=by
 have hw:Region.wanted o (yielded ops a.tmps)=true:=bm2
 rw[aF hw];obtain⟨d,hu,hd⟩:=hu
 have hr:(loadVar ty ⟨b,off,none⟩).run P w=.ok (.agg cs) w:=by
  exact ba7
 unfold Oper.wp execOp;simp only[ho,hx,Instr.loadAt,Instr.sureAddr,Sem.run_bind,Sem.run_pure,Result.andThen_ok,hr];exact h
theorem qR{K:Act→World→Prop}{Q:Exit→Act→World→Prop}{E:Prop}(nX:o.guard=none)(s x:Operand)(t:TypeId)(ho:o.op=.call {callee:=.builtin .append,args:=#[s,x],argTypes:=#[t,t]}){af:Nat}{e:TypeId}{i:TypeInfo}{z:Value}{size bytes:Nat}(ht:P.underlying t=some (.slice e))(hi:P.info? e=some i)(hz:i.zero=some z)(hsize:i.size=size)(hby:i.bytes=bytes)(hzs:z.cells.size=size)(hsz:0<size)(hbb:bytes≤1000){w2 W3:World}{us:Array Value}(hW:W3.heap=(w2.alloc (.cells us e)).heap)(hus:us.size=size)(h1:∀u∈us.toList,u.oneCell'=true)(v:Value)(n:Nat)(xs:List Value)(hs:a.eval s=v)(hown:w2.ownsRow af e size v n xs)(hx:a.eval x=.slice (some ⟨w2.heap.size,0,none⟩) 1 1)(hn:n<1000001)(hbase:af≤w2.heap.size)(h:∀g cap w',w'.ownsRow af e size (.slice (some ⟨g,0,none⟩) (n+1) cap) (n+1) (xs++us.toList)→W3.grownBy w' v.ownBlock→(v.ownBlock=some g∨W3.heap.size≤g)→K (a.put o.dst (.slice (some ⟨g,0,none⟩) (n+1) cap)) w'):if Region.wanted o (yielded ops a.tmps)=true then Oper.wp P o a W3 K Q else E:=by
 have hw:Region.wanted o (yielded ops a.tmps)=true:=bm2
 rw[aF hw];exact EM s x t ho ht hi hz hsize hby hzs hsz hbb hW hus h1 v n xs hs hown hx hn hbase h
end
structure Ny(lo:Nat)(w0 wr:World)(f2:bH→Option oJ)(W:Value→List Value)(wb:Nat)(p:List (List cu))(j:Nat)(v:Value)(f:bH→Option oJ)(B:Nat→CK→Option Nat)(K:Nat→CK→Nat)(C:Nat→CK→List Value):Prop where
 own:eF lo w0 wr f
 al:f .al=some (some wb,0,W v)
 cU:v=nG ((f .gs).bind (·.1)) j (((f .gs).map (·.2.1)).getD 0)
 row:((f .gs).map (·.2.2)).getD []=bT (fun i l=>aW0 (nG (B i (some (.ops 0))) l.length (K i (some (.ops 0))))) 0 (p.take j)
 ops:∀(i:Nat) l,i<j→p[i]?=some l→f (.ops i)=some (B i (some (.ops 0)),K i (some (.ops 0)),bT (J6 (B i) (K i) 0) 0 l)
 cs:∀(i q:Nat),i<j→f (.cases i q)=some (B i (some (.cases 0 q)),K i (some (.cases 0 q)),C i (some (.cases 0 q)))
 cse:∀(i:Nat) l (q:Nat) o,i<j→p[i]?=some l→l[q]?=some o→C i (some (.cases 0 q))=bT fT 0 o.cases
 csn:∀(i:Nat) l (q:Nat),i<j→p[i]?=some l→l[q]?=none→C i (some (.cases 0 q))=[]
 no:∀i,j≤i→f (.ops i)=none∧∀q,f (.cases i q)=none
 N7:∀k,k≠ .al→k≠ .gs→(∀i,k≠ .ops i)→(∀i q,k≠ .cases i q)→f k=f2 k
section
variable{lo:Nat}{w0 wr w5 w6:World}{f2:bH→Option oJ}{W:Value→List Value}{wb j:Nat}{p:List (List cu)}{v:Value}{f:bH→Option oJ}{B:Nat→CK→Option Nat}{K:Nat→CK→Nat}{C:Nat→CK→List Value}
section
variable(G:Ny lo w0 wr f2 W wb p j v f B K C)
include G
theorem Ny.WL(hj:j≤p.length){aV:CK→Option Nat}{cap:CK→Nat}{c:CK→List Value}(O5:eF lo w0 w5 (iK j f aV cap c)):w5.ownsRow lo 100 25 v j (bT (fun i l=>aW0 (nG (B i (some (.ops 0))) l.length (K i (some (.ops 0))))) 0 (p.take j)):=by
 have h0:iK j f aV cap c .gs=f .gs:=rfl;have:=cN.owns O5 (k:=.gs) (p:=(100,25)) rfl dX (n:=j) (by rw[h0,G.row,aV9 (k:=25) (fun _ _=>rfl),tC,Nat.min_eq_left hj]);rw[h0,G.row,←G.cU]at this;exact this
theorem Ny.aa7{w2 w3:World}{ty:CK→Option (Nat×Nat)}{aV:CK→Option Nat}{cap:CK→Nat}{c:CK→List Value}(hR:cN w2.heap.size w2 w3 aV ty cap c)(hm:wr.heap.size<w2.heap.size):∀k b q ys,iK j f aV cap c k=some (some b,q,ys)→b≠wr.heap.size:=by
 intro k b q ys h e;unfold iK at h;split at h
 ·rename_i ck BG;have h1:aV ck=some b:=by have:=congrArg (fun x:Option oJ=>x.bind (·.1)) h;exact this
  have:=(hR.lies ck b h1).1;omega
 ·have:=(G.own.lt h).2;omega
theorem Ny.push{l:List cu}(hl:p[j]?=some l){aV:CK→Option Nat}{cap:CK→Nat}{c:CK→List Value}(O5:eF lo w0 w5 (iK j f aV cap c))(mA:c (some (.ops 0))=bT (J6 aV cap 0) 0 l)(fa:∀(q:Nat) o,l[q]?=some o→c (some (.cases 0 q))=bT fT 0 o.cases)(RG:∀(q:Nat),l[q]?=none→c (some (.cases 0 q))=[]){g cp:Nat}(hg:w5.grownBy w6 v.ownBlock)(hown:w6.ownsRow lo 100 25 (.slice (some ⟨g,0,none⟩) (j+1) cp) (j+1) (bT (fun i l=>aW0 (nG (B i (some (.ops 0))) l.length (K i (some (.ops 0))))) 0 (p.take j)++aW0 (nG (aV (some (.ops 0))) l.length (cap (some (.ops 0))))))(gp:v.ownBlock=some g∨w5.heap.size≤g)(hW:∀a b,(W a).set 3 b=W b):∃f' B' K' C',Ny lo w0 (w6.setCell ⟨wb,3,none⟩ (.slice (some ⟨g,0,none⟩) (j+1) cp)) f2 W wb p (j+1) (.slice (some ⟨g,0,none⟩) (j+1) cp) f' B' K' C':=by
 have oF:∀k,Ch j k=none→iK j f aV cap c k=f k:=fun k h=>by unfold iK;rw[h]
 have hv:v.ownBlock=(iK j f aV cap c .gs).bind (·.1):=by rw[oF _ rfl,G.cU,gV]
 rw[hv]at hg gp;have O6:=O5.row (r:=.gs) (p:=(100,25)) (fun q h=>bq4) hg hown gp;have O7:=O6.set (r:=.al) (b:=wb) (cp:=0) (j:=3) (xs:=W v) (v:=.slice (some ⟨g,0,none⟩) (j+1) cp) (by rw[aD _ _ sX,oF _ rfl];exact G.al);rw[hW]at O7;have vy:j<p.length:=cA hl;refine⟨_,(fun i=>if i=j then aV else B i),(fun i=>if i=j then cap else K i),(fun i=>if i=j then c else C i),O7,?_,?_,?_,?_,?_,?_,?_,?_,?_⟩
 ·rw[bq]
 ·rw[aD _ _ sX,bq];rfl
 ·rw[aD _ _ sX,bq,ox hl,ni,tC,Nat.min_eq_left oX];simp only[km,Option.getD_some,bT,List.append_nil,Nat.zero_add,dt];congr 1;refine gX _ fun i x hx=>?_
  have:i<j:=by have:=cA hx;rw[tC]at this;omega
  rw[aE oX,aE oX]
 ·intro i l' hi hl';rw[aD _ _ sX,aD _ _ sX];by_cases e:i=j
  ·subst e;rw[hl]at hl';cases hl';simp only[dt];unfold iK Ch;simp only[dt];rw[mA]
  ·simp only[aE e];rw[oF _ (by simp[Ch,e])];exact G.ops i l' oX hl'
 ·intro i q hi;rw[aD _ _ sX,aD _ _ sX];by_cases e:i=j
  ·subst e;simp only[dt];unfold iK Ch;simp only[dt]
  ·simp only[aE e];rw[oF _ (by simp[Ch,e])];exact G.cs i q oX
 ·intro i l' q o hi hl' ho;by_cases e:i=j
  ·subst e;rw[hl]at hl';cases hl';simp only[dt];exact fa q o ho
  ·simp only[aE e];exact G.cse i l' q o oX hl' ho
 ·intro i l' q hi hl' ho;by_cases e:i=j
  ·subst e;rw[hl]at hl';cases hl';simp only[dt];exact RG q ho
  ·simp only[aE e];exact G.csn i l' q oX hl' ho
 ·intro i hi;have e:i≠j:=by omega
  refine⟨?_,fun q=>?_⟩
  ·rw[aD _ _ sX,aD _ _ sX,oF _ (by simp[Ch,e])];exact(G.no i oX).1
  ·rw[aD _ _ sX,aD _ _ sX,oF _ (by simp[Ch,e])];exact(G.no i oX).2 q
 ·intro k h1 h2 h3 h4;rw[aD _ _ h1,aD _ _ h2]
  rw[oF k (by
   cases k<;>first
    |rfl
    |exact aX rfl (h3 _)
    |exact aX rfl (h4 _ _))]
  exact G.N7 k h1 h2 h3 h4
end
end
theorem zJ{P:Program}{ops:Array Oper}{o:Oper}{a:Act}{w:World}{K:Act→World→Prop}{Q:Exit→Act→World→Prop}{E:Prop}(nX:o.guard=none)(s x:Operand)(t:TypeId)(ho:o.op=.call {callee:=.builtin .append,args:=#[s,x],argTypes:=#[t,t]}){e:TypeId}{i:TypeInfo}(ht:P.underlying t=some (.slice e))(hi:P.info? e=some i)(hs:a.eval s=.slice none 0 0)(ao:Option Addr)(c:Nat)(hx:a.eval x=.slice ao 0 c)(h:K (a.put o.dst (.slice none 0 0)) w):if Region.wanted o (yielded ops a.tmps)=true then Oper.wp P o a w K Q else E:=by
 have hw:Region.wanted o (yielded ops a.tmps)=true:=bm2
 rw[aF hw];exact yw s x t ho ht hi hs ao c hx h
theorem zK(w:World):Calls prog 81 #[I 1] w fun e w'=>∃b g,e=.returned (.pointer (some ⟨b,0,none⟩))∧w'.heap[b]?=some (.cells #[.slice (some ⟨g,0,none⟩) 1 1] 161 (0,0))∧w'.heap[g]?=some (.cells #[I (-1)] 3 (0,0))∧w.heap.size≤b∧w.heap.size≤g∧b≠g∧Below w.heap.size w w':=by
 obtain⟨i0,hi,fV,gF,gG⟩:=info_parts lC;have sN:∀W:World,(Instr.makeSlice 28 (I 0) (I 0)).run prog W=.ok (.slice (some ⟨W.heap.size,0,none⟩) 0 0) (W.alloc (.cells (madeCells (I 0).cells (0*i0.size)) 3)):=fun W=>av9 (P:=prog) 28 3 i0 _ underlying28 hi fV .i64 .i64 0 0 cG bk6 oX W
 have af2:∀W:World,(Instr.makeSlice 28 (I 1) (I 1)).run prog W=.ok (.slice (some ⟨W.heap.size,0,none⟩) 1 1) (W.alloc (.cells (madeCells (I 0).cells (1*i0.size)) 3)):=fun W=>av9 (P:=prog) 28 3 i0 _ underlying28 hi fV .i64 .i64 1 1 cG bk6 oX W
 rw[gF]at af2;clear hi fV gF gG sN;go_enter func81,ntmps81;go_wp2;have hm:madeCells #[I 0] 1=#[I 0]:=kX
 obtain⟨g,hg⟩:=dC (w.heap.size);obtain⟨w1,jk⟩:=dC (w.alloc (Obj.cells (madeCells #[I 0] 1) 3));obtain⟨w2,nt⟩:=dC (w1.alloc (Obj.cells #[Value.slice (some ⟨w.heap.size,0,none⟩) 1 1] 161));rw[←jk,←nt,←hg];have s1:w1.heap.size=g+1:=by rw[jk,hg];simp
 have h0:Hid (w2.heap[g]?=some (.cells #[I 0] 3 (0,0))∧w2.heap[g+1]?=some (.cells #[.slice (some ⟨g,0,none⟩) 1 1] 161 (0,0))∧Below w.heap.size w w2):=by
  refine⟨?_,?_,?_⟩
  ·rw[nt,gf _ _ _ oX,jk,hg,hm];exact dP _ _
  ·rw[nt,←s1,hg];exact dP _ _
  ·rw[nt,jk];exact((fp _ _).alloc cG _).alloc sX _
 have HG:=ag hg;clear af2 jk nt s1 hg;go_loopw [16] (fun i wr=>∃k:Nat,i=.int .i64 k∧k≤1∧Hid (∃v,(k=1→v=I (-1))∧v.oneCell'=true∧wr.heap[g]?=some (.cells #[v] 3 (0,0))∧wr.heap[g+1]?=some (.cells #[.slice (some ⟨g,0,none⟩) 1 1] 161 (0,0))∧Below w.heap.size w wr)) (fun i _=>1-(intOf i).toNat)
 case atStart=>exact⟨0,rfl,oX,I 0,(fun h=>bk0),rfl,h0.out.1,h0.out.2.1,h0.out.2.2⟩
 case round=>
  clear h0;obtain⟨k,rfl,hk,HW⟩:=hrel;by_cases dD:k<1
  ·obtain rfl:k=0:=by omega
   obtain⟨v,_,hv,h1,h2,h3⟩:=HW.out;have cg:wr.cell? ⟨g,0,none⟩=some v:=(by rw[cr _ _ _ _ _ _ h1];rfl);have fg:=iM wr g 0 _ _ h1;have cb:wr.cell? ⟨g+1,0,none⟩=some (.slice (some ⟨g,0,none⟩) 1 1):=by rw[cr _ _ _ _ _ _ h2];rfl
   have HN:Hid (∀W:World,W.heap=(wr.setCell ⟨g,0,none⟩ (I (-1))).heap→W.os=wr.os→W.tape=wr.tape→W.output=wr.output→W.heap[g]?=some (.cells #[I (-1)] 3 (0,0))∧W.heap[g+1]?=some (.cells #[.slice (some ⟨g,0,none⟩) 1 1] 161 (0,0))∧Below w.heap.size w W):=fun W hW o1 o2 o3=>by
    have hB:=h3.setCell (p:=⟨g,0,none⟩) (by show w.heap.size≤g;rw[HG.out];exact Nat.le_refl _) (I (-1));refine⟨?_,?_,?_⟩
    ·rw[hW];exact heap_setCell_same _ _ 0 _ _ _ h1
    ·rw[hW,fQ _ _ _ _ sX];exact h2
    ·exact⟨o1.trans h3.os,o2.trans h3.tape,o3.trans h3.output,by rw[hW];exact hB.size,fun b hb=>by rw[hW];exact hB.block b hb⟩
   clear h1 h2 h3 HW;go_wp2;go_roundw
   case rel=>
    obtain⟨a1,a2,a3⟩:=HN.out _ rfl rfl rfl rfl;exact⟨1,rfl,oX,I (-1),(fun _=>rfl),rfl,a1,a2,a3⟩
   case measure=>simp[intOf]
  ·obtain rfl:k=1:=by omega
   go_wp2;go_ret;obtain⟨v,hv,_,h1,h2,h3⟩:=HW.out;rw[hv trivial]at h1;have hg:=HG.out;exact⟨g+1,rfl,g,h2,h1,oX,oX,oX,h3⟩
theorem DT(b:Nat)(a:Option Addr)(c:Nat)(w:World):Calls prog 191 #[.pointer (some ⟨b,0,none⟩),.slice a 0 c] w (oV fun w'=>w=w'):=by
 go_enter func191,ntmps191;go_wp2;go_loopw [9] (fun i wr=>i=.int .i64 0∧wr=w) (fun i _=>0)
 case atStart=>exact⟨rfl,rfl⟩
 case round=>
  obtain⟨rfl,rfl⟩:=hrel;exact aW5
theorem Jj{lo:Nat}{w0 w:World}{L:List (bH×oJ)}(H:eh lo w0 w L):Calls prog 81 #[I 1] w fun e w'=>∃b g,e=.returned (.pointer (some ⟨b,0,none⟩))∧eh lo w0 w' ((.dY,some b,0,[.slice (some ⟨g,0,none⟩) 1 1])::(.dQ,some g,1,[I (-1)])::L):=by
 refine(zK w).mono ?_;rintro e w' ⟨b,g,rfl,f1,f2,f4,f5,f6,f7⟩;exact⟨b,g,rfl,H.Sv f7 _ _ _ _ _ _ _ _ f4 (fF f1 rfl (fun p h=>bp2)) f5 (fF f2 rfl (fun p h=>by simp[eI]at h;subst h;exact⟨rfl,rfl,bj4⟩)) f6⟩
theorem Qf{cs:List Value}{j:Nat}{v:Value}(h:cs[j]?=some v):cs.set j v=cs:=by
 obtain⟨h1,h2⟩:=uC h;rw[←h2];exact List.set_getElem_self h1
theorem eh.same{lo:Nat}{w0 w:World}{L:List (bH×oJ)}(H:eh lo w0 w L){r:bH}{b cap j:Nat}{cs:List Value}{v:Value}(hx:(r,some b,cap,cs)∈L)(hv:cs[j]?=some v):eh lo w0 (w.setCell ⟨b,j,none⟩ v) L:=by
 have hb:=(H.lies _ hx b rfl).1;refine⟨H.below.setCell (p:=⟨b,j,none⟩) hb v,bs7,H.nd,fun e he b' h=>⟨(H.lies e he b' h).1,?_⟩,H.none_⟩;have hl:=(H.lies e he b' h).2;by_cases e1:b'=b
 ·subst e1;have:=BL H.nd he hx h rfl;subst this;have:=hl.set j v;rw[show(r,some b',cap,cs).2.2.2=cs from rfl,Qf hv]at this;exact this
 ·exact hl.other (fQ _ _ _ _ (by simpa using e1))
theorem eh.frozen{lo:Nat}{w0 w:World}{L:List (bH×oJ)}(H:eh lo w0 w L){r:bH}{b cap:Nat}{cs:List Value}(h:(r,some b,cap,cs)∈L)(j:Nat):w.frozen? ⟨b,j,none⟩=false:=(H.lies _ h b rfl).2.frozen j
theorem Gf(ca ma a0 a1:Option Addr)(cc mc c0 c1:Nat)(w:World)(hC:∃b off,ca=some ⟨b,off,none⟩∧b<w.heap.size∧w.cell? ⟨b,off,none⟩=some (.slice a0 0 c0)∧w.cell? ⟨b,off+1,none⟩=some (.slice a1 0 c1)):Calls prog 131 #[I 2,I 1,.slice ca 2 cc,.slice ma 0 mc,I 0] w fun e w'=>∃b g q,e=.returned (.tuple #[.pointer (some ⟨b,0,none⟩),I 0])∧eh w.heap.size w w' [(.Eg,some b,0,[I 2,I 1,.slice (some ⟨g,0,none⟩) 2 2,.slice none 0 0,I 0,.slice (some ⟨q,0,none⟩) 2 2]),(.aC,some g,2,[.slice none 0 0,.slice none 0 0]),(.bV,some q,2,[B false,B false])]:=by
 obtain⟨i0,hi,fV,gF,gG⟩:=info_parts lC;have X0:eh w.heap.size w w []:=⟨fp _ _,Nat.le_refl _,sX,fun e h=>bj5,fun e h=>bj5⟩;have HP:=ag (E1 2 2 1 oX oX dX X0);have HC:=ag hC;have HS:=ag DT;clear X0 hC;go_enter func131,ntmps131;obtain⟨cb,off,rfl,dD,_,_⟩:=HC.out
 have XP:Hid (∀W,Below w.heap.size w W→W.cell? ⟨cb,off,none⟩=some (.slice a0 0 c0)∧W.cell? ⟨cb,off+1,none⟩=some (.slice a1 0 c1)):=fun W hB=>by
  obtain⟨cb',VK,e,h1,h2,h3⟩:=HC.out
  cases e;exact⟨cw hB cG _ _ h2,cw hB cG _ _ h3⟩
 go_upto_region 7 with(go_at_call 78;refine HP.out.mono ?_;rintro e w2 ⟨b,g,q,rfl,X⟩;have HX:Hid (eh w.heap.size w w2 [(.Eg,some b,0,[I 2,I 1,.slice (some ⟨g,0,none⟩) 2 2,.slice none 0 0,I 0,.slice (some ⟨q,0,none⟩) 2 2]),(.aC,some g,2,[.slice none 0 0,.slice none 0 0]),(.bV,some q,2,[B false,B false])]):=X;have x4:=X.cell (r:=.Eg) (j:=4) (rn ..) rfl;have f4:=X.frozen (r:=.Eg) (rn ..) 4;clear X)
 have h0:=ag (HX.out.same (r:=.Eg) (j:=4) (v:=I 0) (rn ..) rfl);clear HX x4 f4 HP dD;go_wp2_with fail
 go_loopw [40] (fun i wr=>∃k:Nat,i=.int .i64 k∧k≤2∧Hid (eh w.heap.size w wr [(.Eg,some b,0,[I 2,I 1,.slice (some ⟨g,0,none⟩) 2 2,.slice none 0 0,I 0,.slice (some ⟨q,0,none⟩) 2 2]),(.aC,some g,2,[.slice none 0 0,.slice none 0 0]),(.bV,some q,2,[B false,B false])])) (fun i _=>2-(intOf i).toNat)
 case atStart=>exact⟨0,rfl,oX,h0⟩
 case round=>
  clear h0;obtain⟨k,rfl,hk,HX⟩:=hrel;have f2:=HX.out.frozen (r:=.aC) (nO _ (rn ..)) k;have p3:=HX.out.cell (r:=.Eg) (j:=3) (rn ..) rfl;have p2:=HX.out.cell (r:=.Eg) (j:=2) (rn ..) rfl;have fp3:=HX.out.frozen (r:=.Eg) (rn ..) 3;by_cases dD:k<2
  ·obtain⟨ak,ck,d0⟩:∃ak ck,wr.cell? ⟨cb,off+k,none⟩=some (.slice ak 0 ck):=by
    obtain⟨h1,h2⟩:=XP.out wr HX.out.below;rcases(show k=0∨k=1 by omega)with rfl|rfl
    ·exact⟨_,_,h1⟩
    ·exact⟨_,_,h2⟩
   have q2:wr.cell? ⟨g,k,none⟩=some (.slice none 0 0):=by
    rcases(show k=0∨k=1 by omega)with rfl|rfl
    ·exact HX.out.cell (r:=.aC) (j:=0) (nO _ (rn ..)) rfl
    ·exact HX.out.cell (r:=.aC) (j:=1) (nO _ (rn ..)) rfl
   have HN:Hid (∀W:World,eh w.heap.size w W [(.Eg,some b,0,[I 2,I 1,.slice (some ⟨g,0,none⟩) 2 2,.slice none 0 0,I 0,.slice (some ⟨q,0,none⟩) 2 2]),(.aC,some g,2,[.slice none 0 0,.slice none 0 0]),(.bV,some q,2,[B false,B false])]→eh w.heap.size w (W.setCell ⟨g,k,none⟩ (.slice none 0 0)) [(.Eg,some b,0,[I 2,I 1,.slice (some ⟨g,0,none⟩) 2 2,.slice none 0 0,I 0,.slice (some ⟨q,0,none⟩) 2 2]),(.aC,some g,2,[.slice none 0 0,.slice none 0 0]),(.bV,some q,2,[B false,B false])]):=fun W X=>by
    rcases(show k=0∨k=1 by omega)with rfl|rfl
    ·exact X.same (r:=.aC) (j:=0) (nO _ (rn ..)) rfl
    ·exact X.same (r:=.aC) (j:=1) (nO _ (rn ..)) rfl
   go_upto_region 12 with(go_at_call 191;refine(HS _ _ _ _).mono ?_;rintro e w3 ⟨rfl,rfl⟩)
   cases ak
   all_goals
    go_region;go_wp2;go_roundw
    case rel=>exact⟨k+1,bl2,oX,ag (HN.out _ HX.out.drew)⟩
    case measure=>simp[intOf];omega
  ·obtain rfl:k=2:=by omega
   go_wp2_with (first|(go_at_call 191;refine(HS _ _ _ _).mono ?_;rintro e w3 ⟨rfl,rfl⟩)|(at_builtin;refine gO rfl (.const (.slice none 0 0)) (.tmp 69) 28 rfl underlying28 hi rfl _ _ rfl ?_));go_ret2;exact⟨b,g,q,rfl,HX.out.same (r:=.Eg) (j:=3) (rn ..) rfl⟩
open Go.Maps Go.ChangeMaps
def tJ(w:World)(ao:Option Addr)(cs:List Nat):Prop:=
 cs.length≤9223372036854775807∧∀j,j<cs.length→∃b off z0 z1 z2 z3 x cx b5,ao=some ⟨b,off,none⟩∧
  w.cell? ⟨b,off+j*6,none⟩=some (.int .i64 z0)∧w.cell? ⟨b,off+j*6+1,none⟩=some (.int .i64 z1)∧w.cell? ⟨b,off+j*6+2,none⟩=some (.int .i64 z2)∧w.cell? ⟨b,off+j*6+3,none⟩=some (.int .i64 z3)∧
  w.cell? ⟨b,off+j*6+4,none⟩=some (.slice x (cs.getD j 0) cx)∧w.cell? ⟨b,off+j*6+5,none⟩=some (.bool b5)∧cs.getD j 0≤9223372036854775807
def nZ(w:World)(ao:Option Addr)(pl:List (List Nat)):Prop:=
 pl.length≤9223372036854775807∧∀i,i<pl.length→∃b off r c,ao=some ⟨b,off,none⟩∧w.cell? ⟨b,off+i,none⟩=some (.slice r (pl.getD i []).length c)∧tJ w r (pl.getD i [])
theorem tJ.fU{w w':World}{ao:Option Addr}{cs:List Nat}(h:tJ w ao cs)(hc:∀a v,w.cell? a=some v→w'.cell? a=some v):tJ w' ao cs:=
 ⟨h.1,fun j hj=>by obtain⟨b,off,z0,z1,z2,z3,x,cx,b5,e,h0,h1,h2,h3,h4,h5,hl⟩:=h.2 j hj;exact⟨b,off,z0,z1,z2,z3,x,cx,b5,e,hc _ _ h0,hc _ _ h1,hc _ _ h2,hc _ _ h3,hc _ _ h4,hc _ _ h5,hl⟩⟩
theorem nZ.fU{w w':World}{ao:Option Addr}{pl:List (List Nat)}(h:nZ w ao pl)(hc:∀a v,w.cell? a=some v→w'.cell? a=some v):nZ w' ao pl:=
 ⟨h.1,fun i hi=>by obtain⟨b,off,r,c,e,h1,h2⟩:=h.2 i hi;exact⟨b,off,r,c,e,hc _ _ h1,h2.fU hc⟩⟩
section
variable{w w':World}{B:Nat}{ao:Option Addr}
theorem tJ.below{cs:List Nat}(h:tJ w ao cs)(hb:Below B w w')(hB:w.heap.size≤B):tJ w' ao cs:=by
 exact bb7
theorem nZ.below{pl:List (List Nat)}(h:nZ w ao pl)(hb:Below B w w')(hB:w.heap.size≤B):nZ w' ao pl:=by
 exact bb7
end
def rR:List Nat→Nat
 | []=>0
 |c::cs=>24+16*c+rR cs
def CI:List (List Nat)→Nat
 | []=>0
 |r::rs=>rR r+CI rs
def Small(pl:List (List Nat)):Prop:=pl.length≤100∧∀i,i<pl.length→(pl.getD i []).length≤100∧∀j,j<(pl.getD i []).length→(pl.getD i []).getD j 0≤100
theorem BF:∀(cs:List Nat) (j:Nat),j<cs.length→rR (cs.take (j+1))=rR (cs.take j)+(24+16*cs.getD j 0)
 | [],j,h=>aX h sX
 |c::cs,0,_=>by simp[rR]
 |c::cs,j+1,h=>by have:=BF cs j bj3;simp only[sS,rR,this,List.getD_cons_succ];omega
theorem EK:∀(pl:List (List Nat)) (i:Nat),i<pl.length→CI (pl.take (i+1))=CI (pl.take i)+rR (pl.getD i [])
 | [],i,h=>aX h sX
 |r::rs,0,_=>by simp[CI]
 |r::rs,i+1,h=>by have:=EK rs i bj3;simp only[sS,CI,this,List.getD_cons_succ];omega
theorem Sl(pl:List (List Nat)):CI (pl.take pl.length)=CI pl:=by rw[List.take_length]
theorem NX(r:List Nat):rR (r.take r.length)=rR r:=by rw[List.take_length]
theorem Ll(pl:List (List Nat))(n:Nat)(hn:n=pl.length)(a:Option Addr)(ca:Nat)(w:World)(h1:nZ w a pl)(hsm:Small pl):Calls prog 32 #[.slice a n ca] w fun e w'=>e=.returned (.int .i64 ((n+CI pl:Nat):Int))∧Below w.heap.size w w':=by
 have El:n≤100:=by rw[hn];exact hsm.1
 have Hn:=ag hn;clear hn;have H1:=ag h1;clear h1;have HS:=ag hsm;clear hsm;go_enter func32,ntmps32;go_wp2;go_loopw [3,5,7,12] (fun v _ _ i wr=>∃j s:Nat,j≤n∧i=.int .i64 j∧v=.int .i64 s∧s≤100+162400*j∧Hid (s=n+CI (pl.take j))∧Hid (Below w.heap.size w wr)) (fun _ _ _ i _=>n-(intOf i).toNat)
 case atStart=>exact⟨0,n,Nat.zero_le _,rfl,rfl,oX,(by simp[CI]:n=n+CI (pl.take 0)),fp _ _⟩
 case round=>
  obtain⟨j,s,hj,rfl,rfl,mB,HK,HB⟩:=hrel;by_cases dD:j<n
  ·obtain⟨b1,o1,r1,c1,rfl,oF,rS⟩:=(H1.out.below HB cG).2 j bk8;have VA:=HS.out.2 j bk8;have Em:=EK pl j bk8;obtain⟨cs,fa⟩:=dC (pl.getD j []);rw[←fa]at oF rS VA Em;obtain⟨m,hm⟩:=dC (cs.length);rw[←hm]at oF VA;have YL:m≤100:=VA.1;obtain⟨HO,HSJ,Xw,HM⟩:=ia rS VA.2 Em hm;obtain⟨wo,VB⟩:=dC (wr);subst VB;clear rS VA Em hm fa;go_wp2;go_loopw [3,7,18] (fun v _ i VC=>∃k t:Nat,k≤m∧i=.int .i64 k∧v=.int .i64 t∧t≤s+1624*k∧Hid (t=s+rR (cs.take k))∧Hid (Below wo.heap.size wo VC)) (fun _ _ i _=>m-(intOf i).toNat)
   case atStart=>exact⟨0,s,Nat.zero_le _,rfl,rfl,oX,(by simp[rR]:s=s+rR (cs.take 0)),fp _ _⟩
   case round=>
    obtain⟨k,t,hk,rfl,rfl,YM,HT,mq⟩:=hrel;by_cases rT:k<m
    ·obtain⟨b2,o2,z0,z1,z2,z3,x,cx,b5,rfl,e0,e1,e2,e3,e4,e5,hx⟩:=(HO.out.below mq cG).2 k bn2;have BG:=HSJ.out k rT;have NY:=BF cs k bn2;obtain⟨q,hq⟩:=dC (cs.getD k 0);rw[←hq]at e4 BG NY hx;have Xx:Hid (t+(24+16*q)=s+rR (cs.take (k+1))):=(by show _=_;rw[NY,HT.out];omega);clear NY hq;have vz:=mq.out.size;have tK:Hid (Below wo.heap.size wo (wr.alloc (.cells #[.int .i64 z0,.int .i64 z1,.int .i64 z2,.int .i64 z3,.slice x q cx,.bool b5] 49))):=mq.out.alloc vz _;go_wp2;go_roundw
     case rel=>exact⟨k+1,t+(24+16*q),oX,bl2,bl2,oX,Xx,tK⟩
     case measure=>simp[intOf];omega
    ·obtain rfl:k=m:=by omega
     have HK':Hid (t=n+CI (pl.take (j+1))):=(by show _=_;rw[Xw.out,HT.out,HK.out,show k=cs.length from HM.out,NX];omega);have rh:=HB.out.size;have tK:Hid (Below w.heap.size w wr):=HB.out.trans (mq.out.mono rh);go_wp2;go_roundw
     case rel=>exact⟨j+1,t,oX,bl2,rfl,oX,HK',tK⟩
     case measure=>simp[intOf];omega
  ·obtain rfl:j=n:=by omega
   have hK2:s=j+CI pl:=(by rw[HK.out,show j=pl.length from Hn.out,Sl]);have VD:=ag hK2;clear hK2;go_wp2;go_ret;refine⟨?_,HB⟩;rw[VD.out];rfl
def Lm(r:List Nat):Prop:=16<r.length∨∃j,j<r.length∧6<r.getD j 0
def Ln(pl:List (List Nat))(k:Int):Prop:=k<1∨1048576<k∨8<pl.length∨∃i,i<pl.length∧Lm (pl.getD i [])
def J3(pl:List (List Nat))(k b:Int):Prop:=(Ln pl k→b=0)∧(¬Ln pl k→b=k*(((pl.length+CI pl:Nat):Int)+1))
theorem nr{pl:List (List Nat)}{k:Int}(h:Ln pl k):J3 pl k 0:=⟨fun _=>rfl,fun h'=>aX h h'⟩
theorem VE{k:Int}{S:Nat}(h1:1≤k)(h2:k≤1048576)(hS:S≤16240200):0≤k*(S:Int)∧k*(S:Int)≤1048576*16240200:=
 ⟨Int.mul_nonneg oX oX,Int.mul_le_mul h2 oX oX oX⟩
theorem J4:∀(r:List Nat),(∀j,j<r.length→r.getD j 0≤100)→rR r≤1624*r.length
 | [],_=>by simp[rR]
 |c::r,h=>by
  have h0:=h 0 sX;have:=J4 r fun j hj=>h (j+1) bs8
  simp only[List.getD_cons_zero]at h0;simp only[rR,sV];omega
theorem NZ:∀(pl:List (List Nat)),(∀i,i<pl.length→rR (pl.getD i [])≤162400)→CI pl≤162400*pl.length
 | [],_=>by simp[CI]
 |r::pl,h=>by
  have h0:=h 0 sX;have:=NZ pl fun j hj=>h (j+1) bs8
  simp only[List.getD_cons_zero]at h0;simp only[CI,sV];omega
theorem N0{pl:List (List Nat)}(h:Small pl):pl.length+CI pl≤16240100:=by
 have:=NZ pl fun i hi=>by have h1:=J4 _ (h.2 i hi).2;have h2:=(h.2 i hi).1;omega
 have:=h.1;omega
theorem Hv(pl:List (List Nat))(n:Nat)(hn:n=pl.length)(a:Option Addr)(ca:Nat)(k:Int)(w:World)(h1:nZ w a pl)(hsm:Small pl):Calls prog 12 #[.slice a n ca,.int .i64 k] w fun e w'=>(∃b,e=.returned (.int .i64 b)∧J3 pl k b)∧Below w.heap.size w w':=by
 have El:n≤100:=by rw[hn];exact hsm.1
 have Hn:=ag hn;clear hn;have H1:=ag h1;clear h1;have HS:=ag hsm;clear hsm;go_enter func12,ntmps12;by_cases jg:k<1
 ·go_wp2;go_ret;exact⟨⟨_,rfl,nr (.inl jg)⟩,fp _ _⟩
 by_cases jO:1048576<k
 ·go_wp2;go_ret;exact⟨⟨_,rfl,nr (.inr (.inl jO))⟩,fp _ _⟩
 by_cases hn8:8<n
 ·go_wp2;go_ret;exact⟨⟨_,rfl,nr (.inr (.inr (.inl (by rw[←Hn.out];exact hn8))))⟩,fp _ _⟩
 go_wp2;go_loopw [6,8,22] (fun _ _ i wr=>∃j:Nat,j≤n∧i=.int .i64 j∧Hid (∀i,i<j→¬Lm (pl.getD i []))∧Hid (Below w.heap.size w wr)) (fun _ _ i _=>n-(intOf i).toNat)
 case atStart=>exact⟨0,Nat.zero_le _,rfl,fun i hi=>aX hi oX,fp _ _⟩
 case round=>
  obtain⟨j,hj,rfl,HK,HB⟩:=hrel;by_cases dD:j<n
  ·obtain⟨b1,o1,r1,c1,rfl,oF,rS⟩:=(H1.out.below HB cG).2 j bk8;have Lo:∀h:Lm (pl.getD j []),Ln pl k:=fun h=> .inr (.inr (.inr ⟨j,bk8,h⟩))
   have Em:∀h:¬Lm (pl.getD j []),∀i,i<j+1→¬Lm (pl.getD i []):=fun h i hi=>by
    rcases Nat.lt_or_ge i j with h1|h1
    ·exact HK i h1
    ·obtain rfl:i=j:=by omega
     exact h
   obtain⟨cs,fa⟩:=dC (pl.getD j []);rw[←fa]at oF rS Em Lo;obtain⟨m,hm⟩:=dC (cs.length);rw[←hm]at oF;obtain⟨HO,Xw,HM,YN⟩:=ia rS Em hm Lo;obtain⟨wo,VB⟩:=dC (wr);subst VB;have hmx:m≤9223372036854775807:=(by rw[HM.out];exact HO.out.1);clear rS Em hm fa Lo;by_cases VF:16<m
   ·go_wp2;go_ret;exact⟨⟨_,rfl,nr (YN (.inl (by rw[←HM.out];exact VF)))⟩,HB⟩
   go_wp2;go_loopw [8,31] (fun _ i VC=>∃q:Nat,q≤m∧i=.int .i64 q∧Hid (∀j,j<q→¬6<cs.getD j 0)∧Hid (Below wo.heap.size wo VC)) (fun _ i _=>m-(intOf i).toNat)
   case atStart=>exact⟨0,Nat.zero_le _,rfl,fun i hi=>aX hi oX,fp _ _⟩
   case round=>
    obtain⟨q,hq,rfl,HT,mq⟩:=hrel;have rh:=HB.out.size;have vz:=mq.out.size;by_cases rT:q<m
    ·obtain⟨b2,o2,z0,z1,z2,z3,x,cx,b5,rfl,e0,e1,e2,e3,e4,e5,hx⟩:=(HO.out.below mq cG).2 q bn2;have yD:6<cs.getD q 0→Lm cs:=fun h=> .inr ⟨q,bn2,h⟩
     have hg6:¬6<cs.getD q 0→∀j,j<q+1→¬6<cs.getD j 0:=fun h i hi=>by
      rcases Nat.lt_or_ge i q with h1|h1
      ·exact HT i h1
      ·obtain rfl:i=q:=by omega
       exact h
     obtain⟨t,ht⟩:=dC (cs.getD q 0);rw[←ht]at e4 hx yD hg6;obtain⟨HB6,HG6⟩:=dA yD hg6;have tK:Hid (Below wo.heap.size wo (wr.alloc (.cells #[.int .i64 z0,.int .i64 z1,.int .i64 z2,.int .i64 z3,.slice x t cx,.bool b5] 49))):=mq.out.alloc vz _;have HB4:Hid (Below w.heap.size w (wr.alloc (.cells #[.int .i64 z0,.int .i64 z1,.int .i64 z2,.int .i64 z3,.slice x t cx,.bool b5] 49))):=HB.out.trans (tK.out.mono rh);clear ht yD hg6;by_cases ht6:6<t
     ·go_wp2;go_ret;exact⟨⟨_,rfl,nr (YN (HB6 ht6))⟩,HB4⟩
     ·go_wp2;go_roundw
      case rel=>exact⟨q+1,oX,bl2,HG6 ht6,tK⟩
      case measure=>simp[intOf];omega
    ·obtain rfl:q=m:=by omega
     have HK':=ag (Xw.out fun h=>by
      rcases h with h|⟨i,h1,h2⟩
      ·exact VF (by rw[HM.out];exact h)
      ·exact HT i (by rw[HM.out];exact h1) h2)
     have tK:Hid (Below w.heap.size w wr):=HB.out.trans (mq.out.mono rh);go_wp2;go_roundw
     case rel=>exact⟨j+1,oX,bl2,HK',tK⟩
     case measure=>simp[intOf];omega
  ·obtain rfl:j=n:=by omega
   have Uz:¬Ln pl k:=fun h=>by
    rcases h with h|h|h|⟨i,h1,h2⟩
    ·omega
    ·omega
    ·exact hn8 (by rw[Hn.out];exact h)
    ·exact HK i (by rw[Hn.out];exact h1) h2
   have HG:=ag Uz;clear Uz;obtain⟨S,hS⟩:=dC (j+CI pl);have hSl:S≤16240100:=(by rw[hS,Hn.out];exact N0 HS);have hw:=Ll pl j Hn.out a ca wr (H1.out.below HB cG) HS;rw[←hS]at hw;rw[Hn.out]at hS;have Ao:=ag hS;have HW:=ag hw;have rh:=HB.out.size;have hmul:=VE (k:=k) (S:=S+1) oX oX oX;have ai4:=ag hmul;clear hS hw hmul;go_wp2_with fail
   refine HW.out.mono ?_;rintro e w2 ⟨rfl,hb⟩;have mq:Hid (Below w.heap.size w w2):=HB.out.trans (hb.mono rh);clear hb;go_wp2;go_ret;refine⟨⟨_,rfl,fun h=>aX h HG,fun _=>?_⟩,mq⟩;rw[←Ao.out];have h1:=ai4.out;rw[show(((S+1:Nat)):Int)=(S:Int)+1 from rfl]at h1;generalize k*((S:Int)+1)=z at h1 ⊢;unfold wrap64;omega
end Go.Proofs.YtadifmnmfnihdaaGreat
