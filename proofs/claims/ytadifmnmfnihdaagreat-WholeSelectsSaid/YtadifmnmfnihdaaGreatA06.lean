import Derived.Test.YtadifmnmfnihdaaGreatA02
import Derived.Test.YtadifmnmfnihdaaGreatA03
import Derived.Test.YtadifmnmfnihdaaGreatA04
import Derived.Test.YtadifmnmfnihdaaGreatA05
set_option linter.all false
set_option maxRecDepth 100000
set_option maxHeartbeats 40000000
namespace Go.Proofs.YtadifmnmfnihdaaGreat
open Go.RowKit Mach Go.Proofs.Tryz
structure CQ(p:List (List cu)):Prop where
 n:p.length≤100
 row:∀j,(p.getD j []).length≤100
 cs:∀j (k:Nat) (o:cu),(p.getD j [])[k]?=some o→o.cases.length≤100
theorem Oe:(prog.info? 49).map (fun i=>(i.zero,i.size,i.bytes))=some (some (.agg #[I 0,I 0,I 0,I 0,.slice none 0 0,B false]),6,64):=by kernel_rfl
theorem VQ:(prog.info? 50).map (fun i=>(i.zero,i.size,i.bytes))=some (some (.slice none 0 0),1,24):=by kernel_rfl
theorem tQ(p:List (List cu))(n:Nat)(hn:n=p.length)(a:Option Addr)(ca:Nat)(w:World)(h1:eW w a p)(G2:CQ p):Calls prog 83 #[.slice a n ca] w fun e w'=>∃g cp aV cap c,e=.returned (.slice (some ⟨g,0,none⟩) n cp)∧fY w.heap.size w w' p n 0 aV cap c∧aV none=some g∧cap none=cp:=by
 have El:n≤100:=by rw[hn];exact G2.n
 obtain⟨i0,hi,fV,gF,gG⟩:=info_parts VQ;obtain⟨i1,ki,JV,JW,JX⟩:=info_parts Oc;obtain⟨i2,li,lz0,lz1,lz2⟩:=info_parts Oe;have sN:∀W:World,(Instr.makeSlice 22 (I 0) (I n)).run prog W=.ok (.slice (some ⟨W.heap.size,0,none⟩) 0 n) (W.alloc (.cells (madeCells (Value.slice none 0 0).cells (n*i0.size)) 50)):=fun W=>et (P:=prog) 22 50 i0 _ underlying22 hi fV .i64 .i64 0 n (Nat.zero_le _) (by rw[gG];omega) (by omega) W
 rw[gF]at sN;have Hn:=ag hn;clear hn;have H1:=ag h1;clear h1;have HS:=ag G2;clear G2;go_enter func83,ntmps83;go_wp2
 have h0:Hid (∃aV cap c,fY w.heap.size w (w.alloc (.cells (madeCells #[Value.slice none 0 0] n) 50)) p 0 0 aV cap c∧aV none=some w.heap.size∧cap none=n):=by
  have O:=(cN.nil (κ:=CK) w.heap.size w cG Nl).add (r:=none) (b:=w.heap.size) (cp:=n) (xs:=[]) (w':=w.alloc (.cells (madeCells #[Value.slice none 0 0] n) 50)) ((fp _ _).alloc cG _) cG
   ⟨_,_,dP _ _,Nat.zero_le _,rfl,fun q hq=>by simp[Nl]at hq;subst hq;exact⟨rfl,by simp[size_madeCells],by unfold maxLen;omega⟩⟩
  refine⟨_,_,_,⟨O,?_,fun i h=>by omega,?_,fun i q o h=>by omega,fun i h=>aD _ _ (by simp),fun i q h=>aD _ _ (by simp),fun _=>aD _ _ (by simp),fun i q h=>aD _ _ (by simp)⟩,bq _ _ _,bq _ _ _⟩
  ·rw[bq];rfl
  ·rw[aD _ _ (by simp),sX];rfl
 clear sN;go_loopw [3,14] (fun out i wr=>∃j og oc:Nat,i=.int .i64 j∧out=.slice (some ⟨og,0,none⟩) j oc∧j≤n∧Hid (∃aV cap c,fY w.heap.size w wr p j 0 aV cap c∧aV none=some og∧cap none=oc)) (fun _ i _=>n-(intOf i).toNat)
 case atStart=>exact⟨0,w.heap.size,n,rfl,rfl,by omega,h0⟩
 case round=>
  clear h0;obtain⟨j,og,oc,rfl,rfl,hj,HC⟩:=hrel;by_cases dD:j<n
  ·have hBw:Below w.heap.size w wr:=by obtain⟨aV,cap,c,h1,_⟩:=HC.out;exact h1.own.below
   obtain⟨os,No⟩:∃os,p[j]?=some os:=⟨_,fv (by rw[←Hn.out];exact dD)⟩;obtain⟨b1,o1,r1,c1,rfl,oF,rS⟩:=H1.out.2 j os No;have oF:=cw hBw cG _ _ oF;have nX:p.getD j []=os:=(by rw[yk,No];rfl);obtain⟨m,hm⟩:=dC (os.length);rw[←hm]at oF;have YL:m≤100:=(by rw[hm,←nX];exact HS.out.row j);obtain⟨HO,HM,ie⟩:=ij rS hm nX;have jf:Hid (∃aV cap c,fY w.heap.size w wr p j 0 aV cap c∧aV none=some og∧cap none=oc∧Value.slice none 0 0=nG (aV (some (.ops j))) 0 (cap (some (.ops j)))):=(by obtain⟨aV,cap,c,h1,h2,h3⟩:=HC.out;exact⟨aV,cap,c,h1,h2,h3,by rw[h1.YP rfl];rfl⟩);clear hBw rS hm No nX HC;obtain⟨wo,VB⟩:=dC (wr);subst VB;go_wp2;go_loopw [6,20] (fun row i VC=>∃(k:Nat) (ra:Option Addr) (rc:Nat),i=.int .i64 k∧row=.slice ra k rc∧k≤m∧Hid (∃aV cap c,fY w.heap.size w VC p j k aV cap c∧aV none=some og∧cap none=oc∧Value.slice ra k rc=nG (aV (some (.ops j))) k (cap (some (.ops j))))) (fun _ i _=>m-(intOf i).toNat)
   case atStart=>exact⟨0,none,0,rfl,rfl,by omega,jf⟩
   case round=>
    clear jf oF;obtain⟨k,ra,rc,rfl,rfl,hk,HR⟩:=hrel;by_cases rT:k<m
    ·obtain⟨aV,cap,c,hC,YZ⟩:=HR.out;obtain⟨o,ho⟩:∃o,os[k]?=some o:=⟨_,fv (by rw[←HM.out];exact rT)⟩;obtain⟨b2,o2,x,cx,rfl,e0,e1,e2,e3,e4,e5,fa,_⟩:=(HO.out.below hC.own.below cG).2 k o ho;have Y0:o.cases.length≤100:=HS.out.cs j k o (by rw[ie.out];exact ho);obtain⟨zk,hzk⟩:∃z,z=o.ai:=⟨_,rfl⟩;obtain⟨zc,hzc⟩:∃z,z=o.ch:=⟨_,rfl⟩;obtain⟨zn,hzn⟩:∃z,z=o.n:=⟨_,rfl⟩;obtain⟨zv,hzv⟩:∃z,z=o.v:=⟨_,rfl⟩;obtain⟨ze,hze⟩:∃z,z=o.dG:=⟨_,rfl⟩;obtain⟨q,hq⟩:=dC (o.cases.length);obtain⟨cs,gE⟩:=dC (bT fT 0 o.cases);rw[←hzk]at e0;rw[←hzc]at e1;rw[←hzn]at e2;rw[←hzv]at e3;rw[←hq]at e4;rw[←hze]at e5;rw[←hq]at Y0;have J9:Hid (∀ob,0<q→∃b off,x=some ⟨b,off,none⟩∧∀j u,cs[j]?=some u→(wr.alloc ob).cell? ⟨b,off+j,none⟩=some u):=fun ob h0=>by rw[hq]at h0;obtain⟨b,off,e,h⟩:=fa.cells h0;refine⟨b,off,e,fun j u hu=>?_⟩;rw[gE]at hu;rw[World.cell?_alloc_lt _ _ _ (xo _ _ (h j u hu))];exact h j u hu
     have HL:Hid (cs.length=q*3):=(by show _=_;rw[gE,hq];exact dX (f:=fT) (k:=3) (fun _ _=>rfl) _ _);have XF:Hid (∀u∈cs,u.oneCell'=true):=(by rw[gE];exact vU _ _);have HEQ:=ag (dO hzk (dO hzc (dO hzn (dO hzv (dO hze (dO hq (dO gE ho)))))));clear hC YZ fa hzk hzc hzn hzv hze hq gE ho;go_wp2_with (at_builtin;go_loud (refine gu rfl _ _ 47 rfl underlying47 ki JV JW JX rfl (by decide) (by decide) rfl x q cx rfl cs HL.out (J9.out _) XF.out (by omega) ?_));intro hb lK w2 EU rj;obtain⟨bn,Hy⟩:=dC (wr.heap.size);have xy:w2.heap[bn]?=some (.cells #[I zk,I zc,I zn,I zv,.slice x q cx,B ze] 49 (0,0)):=(by rw[EU.block bn (by rw[Hy];simp) (by simp),Hy];exact dP _ _);have x0:w2.cell? ⟨bn,0,none⟩=some (I zk):=(by rw[cr _ _ _ _ _ _ xy];rfl);have x1:w2.cell? ⟨bn,1,none⟩=some (I zc):=(by rw[cr _ _ _ _ _ _ xy];rfl);have x2:w2.cell? ⟨bn,2,none⟩=some (I zn):=(by rw[cr _ _ _ _ _ _ xy];rfl);have x3:w2.cell? ⟨bn,3,none⟩=some (I zv):=(by rw[cr _ _ _ _ _ _ xy];rfl);have x4:w2.cell? ⟨bn,4,none⟩=some (.slice x q cx):=(by rw[cr _ _ _ _ _ _ xy];rfl);have x5:w2.cell? ⟨bn,5,none⟩=some (B ze):=(by rw[cr _ _ _ _ _ _ xy];rfl);have xf:=iM w2 bn 4 _ _ xy;have Y6:bn<w2.heap.size:=(dh xy).1
     have hBl:Below wr.heap.size wr (w2.setCell ⟨bn,4,none⟩ (Value.slice hb q lK)):=
      (((fp wr.heap.size wr).alloc cG _).grown EU (by simp) (by intro k hk;cases hk)).setCell (by rw[Hy];exact Nat.le_refl _) _
     rw[←Hy]at rj ⊢;obtain⟨HBL,HBN,LD⟩:=ij hBl Hy rj;have hO2:=rj;obtain⟨aV,cap,c,hC,Y7,hg0,mA⟩:=HR.out;have hown:=(hC.own.eC hBl).owns (k:=some (.ops j)) (p:=(49,6)) rfl (by decide) (n:=k) (by rw[hC.row,ie.out,dX (f:=J6 aV cap j) (k:=6) (fun _ _=>rfl),tC];have:=fm HEQ.out.2.2.2.2.2.2.2;omega);rw[←mA]at hown;have qq:w.heap.size≤(w2.setCell ⟨bn,4,none⟩ (Value.slice hb q lK)).heap.size:=(hC.own.eC hBl).tL;have nv:Hid ((w2.setCell ⟨bn,4,none⟩ (Value.slice hb q lK)).ownsRow w.heap.size 49 6 (.slice ra k rc) k (c (some (.ops j)))):=hown;have HC:=ag (show ∃aV cap c',fY w.heap.size w wr p j k aV cap c'∧aV none=some og∧cap none=oc∧Value.slice ra k rc=nG (aV (some (.ops j))) k (cap (some (.ops j)))∧c (some (.ops j))=c' (some (.ops j))from⟨aV,cap,c,hC,Y7,hg0,mA,rfl⟩);clear hBl Hy rj hO2 hC Y7 hg0 mA hown HR EU xy;go_wp2_with (at_builtin;go_loud (refine od (us:=#[I zk,I zc,I zn,I zv,Value.slice hb q lK,B ze]) (w2:=w2.setCell ⟨bn,4,none⟩ (Value.slice hb q lK)) rfl (.tmp 28) (.tmp 30) 50 rfl underlying50 li lz0 lz1 lz2 rfl (by decide) (by decide) rfl rfl (by simp[Value.oneCell']) (.slice ra k rc) k _ rfl nv.out w2.heap.size (by simp[World.setCell]) rfl (by omega) qq ?_));intro g cp w3 er kX gp
     have hN:Hid (∃aV cap c,fY w.heap.size w w3 p j (k+1) aV cap c∧aV none=some og∧cap none=oc∧Value.slice (some ⟨g,0,none⟩) (k+1) cp=nG (aV (some (.ops j))) (k+1) (cap (some (.ops j)))):=by
      obtain⟨aV,cap,c',hC,gq,mz,mA,mP⟩:=HC.out;obtain⟨q1,q2,q3,q4,q5,q6,q7,q8⟩:=HEQ.out;have jz:(Value.slice ra k rc).ownBlock=aV (some (.ops j)):=(by rw[mA,gV]);rw[jz]at kX gp;rw[mP]at er
      have gE:Value.slice hb q lK=nG (hb.map (·.block)) o.cases.length lK:=by
       rcases LD.out with⟨h1,h2,h3⟩|⟨h1,h2⟩
       ·subst h1 h2 h3;rfl
       ·subst h1;rw[q6];rfl
      have fa:hb.map (·.block)=none∧o.cases=[]∨∃b,hb.map (·.block)=some b∧wr.heap.size≤b∧gl ((w2.setCell ⟨bn,4,none⟩ (Value.slice hb q lK)).alloc (.cells #[I zk,I zc,I zn,I zv,Value.slice hb q lK,B ze] 49)) b none lK (bT fT 0 o.cases):=by
       rcases LD.out with⟨h1,h2,h3⟩|⟨h1,h2⟩
       ·subst h1;exact .inl ⟨rfl,xn (by omega)⟩
       ·subst h1;refine .inr ⟨bn+1,rfl,by rw[HBN.out];omega,?_⟩;obtain⟨_,hl⟩:=gl.kg (ty:=none) (p:=(52,3)) (fun q h=>by cases h) h2;rw[←q7];have h1:w2.heap.size=(w2.setCell ⟨bn,4,none⟩ (Value.slice (some ⟨bn+1,0,none⟩) q lK)).heap.size:=(by simp[World.setCell]);exact(hl.other (fQ _ _ _ _ (by simp))).other (gf _ _ _ (by rw[←h1];exact hl.lt))
      obtain⟨tM,pF,c2,r1,r2,r3,r4,r5⟩:=hC.op (o:=o) (hb:=hb.map (·.block)) (hc:=lK) (w2:=(w2.setCell ⟨bn,4,none⟩ (Value.slice hb q lK)).alloc (.cells #[I zk,I zc,I zn,I zv,Value.slice hb q lK,B ze] 49)) (w3:=w3) (g:=g) (cp:=cp)
       (by rw[ie.out];exact q8) (HBL.out.alloc (by have:=HBL.out.size;omega) _) fa kX (by
        rcases gp with h|h
        ·exact .inl h
        ·right;simpa[World.setCell]using h) (by rw[←gE,←q1,←q2,←q3,←q4,←q5];simpa using er)
      exact⟨tM,pF,c2,r1,r4.trans gq,r5.trans mz,by rw[r2,r3];rfl⟩
     clear HC nv er kX gp LD HBL J9 HL XF qq x0 x1 x2 x3 x4 x5 xf Y6 e0 e1 e2 e3 e4 e5;go_wp2;go_roundw
     case rel=>exact⟨k+1,_,_,by go_num,rfl,by omega,hN⟩
     case measure=>simp[intOf];omega
    ·obtain rfl:k=m:=by omega
     obtain⟨aV,cap,c,hC,gq,mz,mA⟩:=HR.out;have hown:wr.ownsRow w.heap.size 50 1 (.slice (some ⟨og,0,none⟩) j oc) j (c none):=(by have:=hC.own.owns (k:=none) (p:=(50,1)) rfl (by decide) (n:=j) (by rw[hC.out];simp);rw[gq,mz]at this;exact this);have qq:=hC.own.tL;have nv:=ag hown;have HC:=ag (show ∃aV cap c',fY w.heap.size w wr p j k aV cap c'∧aV none=some og∧cap none=oc∧Value.slice ra k rc=nG (aV (some (.ops j))) k (cap (some (.ops j)))∧c none=c' none from⟨aV,cap,c,hC,gq,mz,mA,rfl⟩);clear HR hC gq mz mA hown;go_wp2_with (at_builtin;go_loud (refine od (us:=#[Value.slice ra k rc]) (w2:=wr) rfl (.tmp 33) (.tmp 35) 22 rfl underlying22 hi fV gF gG rfl (by decide) (by decide) rfl rfl (by simp[Value.oneCell']) (.slice (some ⟨og,0,none⟩) j oc) j _ rfl nv.out wr.heap.size rfl rfl (by omega) qq ?_));intro g cp w3 er kX gp
     have hN:Hid (∃aV cap c,fY w.heap.size w w3 p (j+1) 0 aV cap c∧aV none=some g∧cap none=cp):=by
      obtain⟨aV,cap,c',hC,gq,mz,mA,mP⟩:=HC.out;rw[mP,mA]at er;have hk:(p.getD j []).length=k:=(by rw[ie.out];exact HM.out.symm);have YQ:=hC;have hC3:fY w.heap.size w (wr.alloc (.cells #[Value.slice ra k rc] 50)) p j k aV cap c':={hC with own:=hC.own.alloc _}
      obtain⟨tM,pF,c2,r1,r2,r3⟩:=hC3.next hk (by rw[gq];exact kX) (by
       rcases gp with h|h
       ·left;rw[gq];exact h
       ·right;simpa using h) er
      exact⟨tM,pF,c2,r1,r2,r3⟩
     clear HC nv er kX gp;go_wp2;go_roundw
     case rel=>exact⟨j+1,_,_,by go_num,rfl,by omega,hN⟩
     case measure=>simp[intOf];omega
  ·obtain rfl:j=n:=by omega
   go_wp2;go_ret;obtain⟨aV,cap,c,hC,gq,mz⟩:=HC.out;exact⟨_,_,aV,cap,c,rfl,hC,gq,mz⟩
abbrev oJ:=Option Nat×Nat×List Value
structure eh(lo:Nat)(w0 w:World)(L:List (bH×oJ)):Prop where
 below:Below lo w0 w
 tL:lo≤w.heap.size
 nd:(L.filterMap fun e=>e.2.1).Nodup
 lies:∀e∈L,∀b,e.2.1=some b→lo≤b∧gl w b (eI e.1) e.2.2.1 e.2.2.2
 none_:∀e∈L,e.2.1=none→e.2.2.2=[]
section
variable{lo:Nat}{w0 w w':World}{L N:List (bH×oJ)}
theorem eh.eC(H:eh lo w0 w L)(hb:Below w.heap.size w w'):eh lo w0 w' L:=
 ⟨H.below.trans (hb.mono H.tL),jm H.tL hb.size,H.nd,fun e he b h=>⟨(H.lies e he b h).1,(H.lies e he b h).2.other (hb.block b (H.lies e he b h).2.lt)⟩,H.none_⟩
theorem eh.drew(H:eh lo w0 w L):eh lo w0 w.drew L:=H.eC (fp _ _).drew
theorem eh.ext(H:eh lo w0 w L)(hb:Below w.heap.size w w')(fX:(N.filterMap fun e=>e.2.1).Nodup)(hN:∀e∈N,∀b,e.2.1=some b→w.heap.size≤b∧gl w' b (eI e.1) e.2.2.1 e.2.2.2)(h0:∀e∈N,e.2.1=none→e.2.2.2=[]):eh lo w0 w' (N++L):=by
 have H':=H.eC hb;refine⟨H'.below,H'.tL,?_,fun e he b h=>?_,fun e he h=>?_⟩
 ·rw[List.filterMap_append,tB];refine⟨fX,H.nd,fun x hx y hy e=>?_⟩;obtain⟨e1,h1,h2⟩:=List.mem_filterMap.1 hx;obtain⟨e2,h3,h4⟩:=List.mem_filterMap.1 hy;have:=(hN e1 h1 x h2).1;have:=(H.lies e2 h3 y h4).2.lt;omega
 ·rcases List.mem_append.1 he with he|he
  ·exact⟨jm H.tL (hN e he b h).1,(hN e he b h).2⟩
  ·exact H'.lies e he b h
 ·rcases List.mem_append.1 he with he|he
  ·exact h0 e he h
  ·exact H.none_ e he h
theorem eh.Og(H:eh lo w0 w L)(hb:Below w.heap.size w w')(r:bH)(b cap:Nat)(cs:List Value)(h0:w.heap.size≤b)(hl:gl w' b (eI r) cap cs):eh lo w0 w' ((r,some b,cap,cs)::L):=by
 refine H.ext (N:=[(r,some b,cap,cs)]) hb (by simp) (fun e he b' h=>?_) (fun e he h=>?_)
 ·simp only[List.mem_singleton]at he;subst he;cases h;exact⟨h0,hl⟩
 ·simp only[List.mem_singleton]at he;subst he;cases h
theorem eh.Sv(H:eh lo w0 w L)(hb:Below w.heap.size w w')(r r2:bH)(b b2 cap hU:Nat)(cs Ru:List Value)(h0:w.heap.size≤b)(hl:gl w' b (eI r) cap cs)(h2:w.heap.size≤b2)(pJ:gl w' b2 (eI r2) hU Ru)(cM:b≠b2):eh lo w0 w' ((r,some b,cap,cs)::(r2,some b2,hU,Ru)::L):=by
 refine H.ext (N:=[(r,some b,cap,cs),(r2,some b2,hU,Ru)]) hb (by simp[cM]) (fun e he b' h=>?_) (fun e he h=>?_)
 ·simp only[iL,List.not_mem_nil,or_false]at he;rcases he with rfl|rfl<;>cases h
  ·exact⟨h0,hl⟩
  ·exact⟨h2,pJ⟩
 ·simp only[iL,List.not_mem_nil,or_false]at he;rcases he with rfl|rfl<;>cases h
theorem eh.Y8(H:eh lo w0 w L)(hb:Below w.heap.size w w')(r r2 r3:bH)(b b2 b3 cap hU Oh:Nat)(cs Ru cs3:List Value)(h0:w.heap.size≤b)(hl:gl w' b (eI r) cap cs)(h2:w.heap.size≤b2)(pJ:gl w' b2 (eI r2) hU Ru)(h3:w.heap.size≤b3)(XG:gl w' b3 (eI r3) Oh cs3)(cM:b≠b2∧b≠b3∧b2≠b3):eh lo w0 w' ((r,some b,cap,cs)::(r2,some b2,hU,Ru)::(r3,some b3,Oh,cs3)::L):=by
 refine H.ext (N:=[(r,some b,cap,cs),(r2,some b2,hU,Ru),(r3,some b3,Oh,cs3)]) hb (by simp[cM]) (fun e he b' h=>?_) (fun e he h=>?_)
 ·simp only[iL,List.not_mem_nil,or_false]at he;rcases he with rfl|rfl|rfl<;>cases h
  ·exact⟨h0,hl⟩
  ·exact⟨h2,pJ⟩
  ·exact⟨h3,XG⟩
 ·simp only[iL,List.not_mem_nil,or_false]at he;rcases he with rfl|rfl|rfl<;>cases h
theorem eh.ai7(H:eh lo w0 w L)(r:bH):eh lo w0 w ((r,none,0,[])::L):=by
 refine H.ext (N:=[(r,none,0,[])]) (fp _ _) (by simp) (fun e he b' h=>?_) (fun e he h=>?_)
 ·simp only[List.mem_singleton]at he;subst he;cases h
 ·simp only[List.mem_singleton]at he;subst he;rfl
theorem yK{L:List (bH×oJ)}{k:bH}{e:oJ}(h:L.lookup k=some e):(k,e)∈L:=by
 induction L with
 |nil=>cases h
 |cons p L ih=>
  obtain⟨k',e'⟩:=p;rw[List.lookup_cons]at h;split at h
  ·rename_i hk;have hk:=eq_of_beq hk
   cases h;rw[hk];exact rn ..
  ·exact nO _ (ih h)
theorem BL{L:List (bH×oJ)}(h:(L.filterMap fun e=>e.2.1).Nodup){x y:bH×oJ}(hx:x∈L)(hy:y∈L){b:Nat}(h1:x.2.1=some b)(h2:y.2.1=some b):x=y:=by
 induction L with
 |nil=>cases hx
 |cons p L ih=>
  rw[List.filterMap_cons]at h
  cases hp:p.2.1 with
  |none=>
   rw[hp]at h;rcases iL.1 hx with rfl|hx
   ·rw[hp]at h1;cases h1
   rcases iL.1 hy with rfl|hy
   ·rw[hp]at h2;cases h2
   exact ih h hx hy
  |some c=>
   rw[hp]at h;obtain⟨h3,h4⟩:=List.nodup_cons.1 h;rcases iL.1 hx with ex|kt
   ·rcases iL.1 hy with ey|rN
    ·rw[ex,ey]
    ·rw[ex,hp]at h1;cases h1;exact aX (List.mem_filterMap (f:=fun e:bH×oJ=>e.2.1).2 ⟨y,rN,h2⟩) h3
   ·rcases iL.1 hy with ey|rN
    ·rw[ey,hp]at h2;cases h2;exact aX (List.mem_filterMap (f:=fun e:bH×oJ=>e.2.1).2 ⟨x,kt,h1⟩) h3
    ·exact ih h4 kt rN
theorem eh.cell(H:eh lo w0 w L){r:bH}{b cap j:Nat}{cs:List Value}(h:(r,some b,cap,cs)∈L){v:Value}(hv:cs[j]?=some v):w.cell? ⟨b,j,none⟩=some v:=(H.lies _ h b rfl).2.cell j v hv
theorem eh.own(H:eh lo w0 w L){f:bH→Option oJ}(hf:∀k,f k=none∨L.lookup k=f k):cN lo w0 w (fun k=>(f k).bind (·.1)) eI (fun k=>((f k).map (·.2.1)).getD 0) (fun k=>((f k).map (·.2.2)).getD []):=by
 have key:∀k b,(f k).bind (·.1)=some b→∃e,f k=some e∧e.1=some b∧(k,e)∈L:=fun k b h=>by obtain⟨e,h1,h2⟩:=cI.1 h;exact⟨e,h1,h2,yK (((hf k).resolve_left (by rw[h1];simp)).trans h1)⟩
 refine⟨H.below,H.tL,fun k k' b h1 h2=>?_,fun k b h=>?_,fun k h=>?_⟩
 ·obtain⟨e,_,h3,h4⟩:=key k b h1;obtain⟨e',_,h5,h6⟩:=key k' b h2;have:=BL H.nd h4 h6 (b:=b) h3 h5;exact(Prod.mk.inj this).1
 ·obtain⟨e,h2,h3,h4⟩:=key k b h;have:=H.lies _ h4 b h3;simp only[h2,km,Option.getD_some];exact this
 ·cases hk:f k with
  |none=>rfl
  |some e=>
   rw[hk]at h;have:=H.none_ _ (yK (((hf k).resolve_left (by rw[hk];simp)).trans hk)) h;simp only[km,Option.getD_some];exact this
end
theorem fF{w:World}{b:Nat}{cur:Array Value}{t:TypeId}{cs:List Value}{cap:Nat}{ty:Option (Nat×Nat)}(h:w.heap[b]?=some (.cells cur t (0,0)))(hc:cur.toList=cs)(nI:∀p,ty=some p→t=p.1∧cur.size=cap*p.2∧cap≤maxLen):gl w b ty cap cs:=by
 have hl:cs.length=cur.size:=by rw[←hc];simp
 exact⟨cur,t,h,by omega,by rw[←hc];exact List.take_length,nI⟩
def UH(b:Option Nat):Option Addr:=b.map fun b=>⟨b,0,none⟩
theorem Sw{b:Option Nat}{n c:Nat}(h:b=none→n=0∧c=0):Value.slice (UH b) n c=nG b n c:=by
 cases b with
 |none=>obtain⟨rfl,rfl⟩:=h rfl;rfl
 |some b=>rfl
theorem uT{P:Program}{ops:Array Oper}{o:Oper}{a:Act}{w:World}{K:Act→World→Prop}{Q:Exit→Act→World→Prop}{E:Prop}(nX:o.guard=none)(s x:Operand)(t:TypeId)(ho:o.op=.call {callee:=.builtin .append,args:=#[s,x],argTypes:=#[t,t]}){e:TypeId}{i:TypeInfo}{z:Value}{size bytes:Nat}(ht:P.underlying t=some (.slice e))(hi:P.info? e=some i)(hz:i.zero=some z)(hsize:i.size=size)(hby:i.bytes=bytes)(hzs:z.cells.size=size)(hsz:0<size)(hbb:bytes≤200)(hs:a.eval s=.slice none 0 0)(ao:Option Addr)(n c:Nat)(hx:a.eval x=.slice ao n c)(cs:List Value)(hl:cs.length=n*size)(hc:0<n→∃b off,ao=some ⟨b,off,none⟩∧∀j u,cs[j]?=some u→w.cell? ⟨b,off+j,none⟩=some u)(h1:∀u∈cs,u.oneCell'=true)(hn:n<1000001){lo:Nat}{w0:World}{L:List (bH×oJ)}(H:eh lo w0 w L)(r:bH)(hr:∀q,eI r=some q→q=(e,size))(h:∀hb cap w',w.grownBy w' none→eh lo w0 w' ((r,hb,cap,cs)::L)→(hb=none→n=0∧cap=0)→K (a.put o.dst (.slice (UH hb) n cap)) w'):if Region.wanted o (yielded ops a.tmps)=true then Oper.wp P o a w K Q else E:=by
 have hw:Region.wanted o (yielded ops a.tmps)=true:=by simp[Region.wanted,nX]
 rw[aF hw];refine tN s x t ho ht hi hz hsize hby hzs hsz hbb hs ao n c hx cs hl hc h1 hn fun hb cap w' h2 h3=>?_
 have gq:Below w.heap.size w w':=(fp _ _).grown h2 cG (by intro k hk;cases hk);rcases h3 with⟨rfl,rfl,rfl⟩|⟨rfl,h3⟩
 ·have fa:cs=[]:=xn (by simpa using hl);subst fa;refine h none 0 w' h2 ?_ (fun _=>⟨rfl,rfl⟩);exact(H.eC gq).ai7 r
 ·obtain⟨h4,h5⟩:=gl.kg (ty:=eI r) (p:=(e,size)) hr h3;exact h (some w.heap.size) cap w' h2 (H.Og gq r _ cap cs h4 h5) (fun h=>by cases h)
theorem xU:(prog.info? 105).map (fun i=>(i.zero,i.size,i.bytes))=some (some (.agg #[B false,I 0,I 0,I 0,B false,I 0,B false]),7,56):=by kernel_rfl
theorem BM(n:Nat)(h0:0<n)(hn:n≤64){lo:Nat}{w0 w:World}{L:List (bH×oJ)}(H:eh lo w0 w L):Calls prog 80 #[I n] w fun e w'=>∃b g,e=.returned (.pointer (some ⟨b,0,none⟩))∧eh lo w0 w' ((.dB,some b,0,[.slice (some ⟨g,0,none⟩) n n])::(.ax,some g,n,bT ry 0 (List.replicate n (0,false)))::L):=by
 refine(Az n h0 hn w).mono ?_;rintro e w' ⟨b,g,cur,rfl,f1,f2,f3,f4,f5,f6,f7⟩;exact⟨b,g,rfl,H.Sv f7 _ _ _ _ _ _ _ _ f4 (fF f1 rfl (fun p h=>by simp[eI]at h)) f5 (fF f2 f3 (fun p h=>by simp[eI]at h)) f6⟩
theorem LF{lo:Nat}{w0 w:World}{L:List (bH×oJ)}(H:eh lo w0 w L):Calls prog 81 #[I 0] w fun e w'=>∃b g,e=.returned (.pointer (some ⟨b,0,none⟩))∧eh lo w0 w' ((.dY,some b,0,[.slice (some ⟨g,0,none⟩) 0 0])::(.dQ,some g,0,[])::L):=by
 refine(yA w).mono ?_;rintro e w' ⟨b,g,cur,rfl,f1,f2,f3,f4,f5,f6,f7⟩;exact⟨b,g,rfl,H.Sv f7 _ _ _ _ _ _ _ _ f4 (fF f1 rfl (fun p h=>by simp[eI]at h)) f5 (fF f2 (by simpa using f3) (fun p h=>by simp[eI]at h;subst h;exact⟨rfl,by simpa using f3,by unfold maxLen;omega⟩)) f6⟩
theorem E0(l:List Int)(n:Nat)(hn:n=l.length)(a:Option Addr)(c:Nat){lo:Nat}{w0 w:World}{L:List (bH×oJ)}(H:eh lo w0 w L)(h:Rd .u16 w a l)(hs:n≤300):Calls prog 82 #[.slice a n c] w fun e w'=>∃b g,e=.returned (.pointer (some ⟨b,0,none⟩))∧eh lo w0 w' ((.gN,some b,0,[.slice (some ⟨g,0,none⟩) n n,I 0])::(.list,some g,n,l.map U)::L):=by
 refine(Cz l n hn a c w h hs).mono ?_;rintro e w' ⟨b,g,rfl,f1,f2,f4,f5,f6,f7⟩;exact⟨b,g,rfl,H.Sv f7 _ _ _ _ _ _ _ _ f4 (fF f1 rfl (fun p h=>by simp[eI]at h)) f5 (fF f2 rfl (fun p h=>by simp[eI]at h)) f6⟩
theorem E1(N n most:Nat)(hn:n≤8)(hN:N≤64)(gI:nK N n most=true){lo:Nat}{w0 w:World}{L:List (bH×oJ)}(H:eh lo w0 w L):Calls prog 78 #[I N,I n,I most] w fun e w'=>∃b g q,e=.returned (.tuple #[.pointer (some ⟨b,0,none⟩),I 0])∧eh lo w0 w' ((.ar,some b,0,[I N,I most,.slice (some ⟨g,0,none⟩) n n,.slice none 0 0,I 0,.slice (some ⟨q,0,none⟩) N N])::(.aC,some g,n,List.replicate n (.slice none 0 0))::(.bV,some q,N,(List.replicate N false).map B)::L):=by
 refine(CA N n most hn hN gI w).mono ?_;rintro e w' ⟨b,g,q,cur,yy,rfl,f1,f2,f3,f4,f5,f6,f7,f8,f9,f10,f11,f12⟩;exact⟨b,g,q,rfl,H.Y8 f12 _ _ _ _ _ _ _ _ _ _ _ _ f6 (fF f1 rfl (fun p h=>by simp[eI]at h)) f7 (fF f2 f3 (fun p h=>by simp[eI]at h)) f8 (fF f4 f5 (fun p h=>by simp[eI]at h)) ⟨f9,f10,f11⟩⟩
theorem BN(N:Nat)(hN:N≤64){lo:Nat}{w0 w:World}{L:List (bH×oJ)}(H:eh lo w0 w L):Calls prog 79 #[I N,I 16] w fun e w'=>∃b g q,e=.returned (.tuple #[.pointer (some ⟨b,0,none⟩),I 0])∧eh lo w0 w' ((.aw,some b,0,[.slice (some ⟨g,0,none⟩) N N,.slice (some ⟨q,0,none⟩) 16 16])::(.aS,some g,N,bT oD 0 (List.replicate N {}))::(.bM,some q,16,bT rG 0 (List.replicate 16 {}))::L):=by
 refine(AD N hN w).mono ?_;rintro e w' ⟨b,g,q,cur,yy,rfl,f1,f2,f3,f4,f5,f6,f7,f8,f9,f10,f11,f12⟩;exact⟨b,g,q,rfl,H.Y8 f12 _ _ _ _ _ _ _ _ _ _ _ _ f6 (fF f1 rfl (fun p h=>by simp[eI]at h)) f7 (fF f2 f3 (fun p h=>by simp[eI]at h)) f8 (fF f4 f5 (fun p h=>by simp[eI]at h)) ⟨f9,f10,f11⟩⟩
end Go.Proofs.YtadifmnmfnihdaaGreat
namespace Go.Proofs.YtadifmnmfnihdaaGreat
open Go.RowKit Go.Proofs.Tryz
theorem BO{B e n:Nat}{w:World}{v:Value}{xs:List Value}(h:w.ownsRow B e 1 v n xs)(hn:v≠ .slice none 0 0):∃g cap,v=.slice (some ⟨g,0,none⟩) n cap∧B≤g∧g<w.heap.size∧n≤cap:=by
 rcases h.2 with⟨rfl,h0⟩|⟨g,cap,cur,rfl,hB,hg,hc,_⟩
 ·exact aX rfl hn
 ·exact⟨g,cap,rfl,hB,(dh hg).1,hc⟩
theorem E3{B B' e n:Nat}{w:World}{v:Value}{xs:List Value}(h:w.ownsRow B e 1 v n xs)(hB:B'≤B):w.ownsRow B' e 1 v n xs:=by
 refine⟨h.1,?_⟩;rcases h.2 with h0|⟨g,cap,cur,hv,hb,r⟩
 ·exact .inl h0
 ·exact .inr ⟨g,cap,cur,hv,by omega,r⟩
def oK(out:List Int)(x:Int):List Int:=if x≤0 then out else if 0<out.length∧out.getD (out.length-1) 0=x then out else out++[x]
def fb(s:List Int)(k:Nat):List Int:=(s.take k).foldl oK []
def rZ(l:List Int):List Int:=fb (yH l) l.length
theorem CR(s:List Int):fb s 0=[]:=by simp[fb]
theorem CT(s:List Int)(k:Nat)(h:k<s.length):fb s (k+1)=oK (fb s k) (s.getD k 0):=by
 unfold fb;rw[List.take_succ_eq_append_getElem h,List.foldl_append];simp[List.getD,h]
structure LK(B B1:Nat)(s:List Int)(V0:Value)(w1:World)(k m:Nat)(v:Value)(wr:World):Prop where
 val:(m=0∧v=V0)∨(0<m∧wr.ownsRow B1 3 1 v m ((fb s k).map (Value.int .i64)))
 len:m=(fb s k).length
 below:Below B1 w1 wr
theorem vW(zs:List Int)(n:Nat)(hn:n=zs.length)(a:Option Addr)(c:Nat)(w:World)(h:Rd .i64 w a zs)(hs:n≤1000):Calls prog 199 #[.slice a n c] w (vH w (rZ zs)):=by
 obtain⟨i0,hi,fV,gF,gG⟩:=info_parts lC;have Hn:=ag hn;clear hn;go_enter func199,ntmps199;go_wp2_with fail
 refine(N8 zs n Hn.out a c _ h hs).mono ?_;rintro e w1 ⟨v,rfl,hown,hb⟩;obtain⟨ao,cap,rfl,jF⟩:=hown.rd (by rw[lI,←Hn.out];omega);rw[lI,←Hn.out];obtain⟨s,eo⟩:=dC (yH zs);rw[←eo]at jF;have mj:s.length=n:=by rw[eo,lI,←Hn.out]
 have Hsd:=ag eo;clear eo;have Hsl:=ag mj;clear mj;have HR:=ag jF;clear jF hown h;have HB:=ag hb;clear hb;have H0:Hid (∀W:World,Below w1.heap.size w1 W→W.ownsRow w.heap.size 3 1 (.slice none 0 0) 0 []):=fun W _=>World.ownsRow_nil _ _ _ _
 have HL:Hid (LK w.heap.size w1.heap.size s (Value.slice none 0 0) w1 0 0 (Value.slice none 0 0) w1):=⟨.inl ⟨rfl,rfl⟩,by rw[CR];rfl,.refl _ _⟩;go_wp2;go_loopw [3,5,9] (fun v _ i wr=>∃(vv:Value) (k m:Nat),vv=v∧k≤n∧m≤k∧i=.int .i64 k∧Hid (LK w.heap.size w1.heap.size s (Value.slice none 0 0) w1 k m vv wr)) (fun _ _ i _=>n-(intOf i).toNat)
 case atStart=>exact⟨_,0,0,rfl,Nat.zero_le _,Nat.le_refl _,rfl,HL⟩
 case round=>
  clear HL;obtain⟨vv,k,m,rfl,hk,sN,rfl,HL⟩:=hrel;by_cases dD:k<n
  ·obtain⟨b,off,rfl,hc⟩:=(HR.out.below HL.out.below cG).at k (by rw[Hsl.out];exact dD);obtain⟨x,hx⟩:=named (s.getD k 0);rw[←hx.out]at hc;have jf:=CT s k (by rw[Hsl.out];exact dD);rw[←hx.out]at jf;have Hst:=ag jf;clear jf;by_cases Hm:x≤0
   ·have VR:Hid (LK w.heap.size w1.heap.size s (Value.slice none 0 0) w1 (k+1) m vv wr):=by
     have e:fb s (k+1)=fb s k:=(by rw[Hst.out];unfold oK;rw[aF Hm]);refine⟨?_,?_,HL.out.below⟩
     ·rw[e];exact HL.out.val
     ·rw[e];exact HL.out.len
    go_wp2;go_roundw
    case rel=>exact⟨_,k+1,m,rfl,by omega,by omega,by go_num,VR⟩
    case measure=>simp[intOf];omega
   ·by_cases hm0:m=0
    ·subst hm0
     have hv:vv=(Value.slice none 0 0):=by
      rcases HL.out.val with h|h
      ·exact h.2
      ·omega
     have kK:fb s k=[]:=xn HL.out.len.symm;subst hv;have hsz:=HL.out.below.size;go_wp2_with (at_builtin;go_loud (refine sZ rfl (.tmp 30) (.tmp 32) 28 rfl 3 i0 (.int .i64 0) 8 underlying28 hi fV gF gG rfl (by omega) _ rfl ⟨wr.heap.size,0,none⟩ 1 (.int .i64 x) rfl (by simp[go_sem]) rfl ?_));intro pF w2 fu jV;have VR:Hid (LK w.heap.size w1.heap.size s (Value.slice none 0 0) w1 (k+1) 1 (.slice (some ⟨wr.heap.size+1,0,none⟩) 1 pF) w2):=(by have e:fb s (k+1)=[x]:=(by rw[Hst.out,kK];unfold oK;rw[aE (by omega),aE (by simp)];rfl);refine⟨.inr ⟨by omega,?_⟩,by rw[e];rfl,(HL.out.below.alloc hsz _).grown jV (by simp;omega) (by intro q hq;cases hq)⟩;rw[e];exact E3 (by simpa using fu) (by omega));clear fu jV;go_wp2;go_roundw
     case rel=>exact⟨_,k+1,1,rfl,by omega,by omega,by go_num,VR⟩
     case measure=>simp[intOf];omega
    ·have ho:wr.ownsRow w1.heap.size 3 1 vv m ((fb s k).map (Value.int .i64)):=by
      rcases HL.out.val with h|h
      ·omega
      ·exact h.2
     obtain⟨g,pF,rfl,hg1,EU,Oi⟩:=BO ho (by rintro rfl;have:=ho.2;simp at this;omega);have J8:=HL.out.len;have cy:=ho.cellAt (m-1) (by omega);have cy2:wr.cell? ⟨g,m-1,none⟩=some (.int .i64 ((fb s k).getD (m-1) 0)):=(by rw[cy];simp[List.getD,show m-1<(fb s k).length by omega]);obtain⟨y,hy⟩:=named ((fb s k).getD (m-1) 0);rw[←hy.out]at cy2;have Hll:=ag J8;have HO:=ag ho;have hm1:(0:Int)<(m:Int):=(by omega);have ny:((m:Int)==0)=false:=(by simp;omega);have p1:(0:Int)≤(m:Int)-1:=(by omega);have p2:((m:Int)-1).toNat=m-1:=(by omega);have hsz:=HL.out.below.size;clear cy J8 ho;by_cases Nd:y=x
     ·subst Nd
      have VR:Hid (LK w.heap.size w1.heap.size s (Value.slice none 0 0) w1 (k+1) m (.slice (some ⟨g,0,none⟩) m pF) wr):=by
       have e:fb s (k+1)=fb s k:=(by rw[Hst.out];unfold oK;rw[aE (by omega),aF ⟨by rw[←Hll.out];omega,by rw[←Hll.out,←hy.out]⟩]);refine⟨?_,?_,HL.out.below⟩
       ·rw[e];exact HL.out.val
       ·rw[e];exact HL.out.len
      go_wp2;go_roundw
      case rel=>exact⟨_,k+1,m,rfl,by omega,by omega,by go_num,VR⟩
      case measure=>simp[intOf];omega
     ·have ay0:(y==x)=false:=(by simpa using Nd);have ay1:(y !=x)=true:=(by simpa using Nd);go_wp2_with (at_builtin;go_loud (refine wpList_append_own _ rfl (.tmp 30) (.tmp 32) 28 rfl w1.heap.size 3 i0 (.int .i64 0) 1 8 underlying28 hi fV gF gG rfl (by decide) _ _ _ rfl (HO.out.alloc _) ⟨wr.heap.size,0,none⟩ 1 1 [.int .i64 x] rfl rfl (cell_one_new _ _ _) (by intro u hu;simp at hu;subst hu;rfl) (by unfold maxLen;omega) (by omega) (by simp;omega) ?_));intro v' w2 fu jV E4;have VR:Hid (LK w.heap.size w1.heap.size s (Value.slice none 0 0) w1 (k+1) (m+1) v' w2):=(by have e:fb s (k+1)=fb s k++[x]:=(by rw[Hst.out];unfold oK;rw[aE (by omega),aE (by rw[←Hll.out,←hy.out];exact fun h=>Nd h.2)]);refine⟨.inr ⟨by omega,?_⟩,by rw[e,py,←Hll.out];rfl,(HL.out.below.alloc hsz _).grown jV (by simp;omega) (by intro q hq;simp[Value.ownBlock]at hq;omega)⟩;rw[e];simpa using fu);obtain⟨g',hU,rfl,-,-,-⟩:=BO fu (fun e=>by simp[e]at E4);clear fu jV E4;go_wp2;go_roundw
      case rel=>exact⟨_,k+1,m+1,rfl,by omega,by omega,by go_num,VR⟩
      case measure=>simp[intOf];omega
  ·obtain rfl:k=n:=by omega
   go_wp2;go_ret;refine⟨_,rfl,?_,HB.out.trans (HL.out.below.mono HB.out.size)⟩;have e:rZ zs=fb s k:=(by unfold rZ;rw[←Hsd.out,←Hn.out]);unfold yv;rw[e,←HL.out.len];rcases HL.out.val with h|h
   ·have kK:fb s k=[]:=xn (by rw[←HL.out.len];exact h.1);obtain rfl:=h.1;rw[kK,h.2];exact H0.out _ HL.out.below
   ·exact E3 h.2 HB.out.size
end Go.Proofs.YtadifmnmfnihdaaGreat
namespace Go.Proofs.YtadifmnmfnihdaaGreat
open Go.RowKit Mach Go.Proofs.Tryz
section
variable{af:Nat}{F:Fx}{w w0 w':World}{m m0 m':Mem}{S S':Wd}{L:List (Nat×Obj)}
theorem bz.rowAt(R:bz af F w m S){r:bH}{xs:List Int}(hc:aj m S r=xs.map I){i:Nat}{v:Int}(hv:xs[i]?=some v):∃b,m.aV r=some b∧m.cU r xs.length=.slice (some ⟨b,0,none⟩) xs.length (m.cap r)∧w.cell? ⟨b,i,none⟩=some (I v):=by
 have cM:aj m S r≠[]:=by rw[hc];intro h;have:=cA hv;simp at h;subst h;simp at this
 obtain⟨b,hb⟩:=R.has cM;refine⟨b,hb,Mem.de hb _,R.cell hb ?_⟩;rw[hc,na,hv];rfl
theorem bz.Sx(R:bz af F w m S){g:Nat}{x:bI}(hx:S.gs[g]?=some x){i:Nat}{v:Int}(hv:x.aH[i]?=some v):∃b,m.aV (.aH g)=some b∧m.cU (.aH g) x.aH.length=.slice (some ⟨b,0,none⟩) x.aH.length (m.cap (.aH g))∧w.cell? ⟨b,i,none⟩=some (I v):=R.rowAt (by simp only[aj,hx]) hv
theorem bz.CU(R:bz af F w m S){g:Nat}{x:bI}(hx:S.gs[g]?=some x){i:Nat}{v:Int}(hv:x.aq[i]?=some v):∃b,m.aV (.aq g)=some b∧m.cU (.aq g) x.aq.length=.slice (some ⟨b,0,none⟩) x.aq.length (m.cap (.aq g))∧w.cell? ⟨b,i,none⟩=some (I v):=R.rowAt (by simp only[aj,hx]) hv
theorem bz.ti(R:bz af F w m S){g:Nat}{x:bI}(hx:S.gs[g]?=some x){i:Nat}{v:Int}(hv:x.bA[i]?=some v):∃b,m.aV (.bA g)=some b∧m.cU (.bA g) x.bA.length=.slice (some ⟨b,0,none⟩) x.bA.length (m.cap (.bA g))∧w.cell? ⟨b,i,none⟩=some (I v):=R.rowAt (by simp only[aj,hx]) hv
theorem vX(R:bz af F w m S)(g:Nat)(x:bI)(hx:S.gs[g]?=some x)(h:Int)(hh:dU x=some h):Calls prog 170 #[bR F,I g] w (eL (I h) fun w'=>∃n,w'=w.drewN n):=by
 obtain⟨k,hk,vA,hkv⟩:=mO hh;obtain⟨b,hb,hd,hc⟩:=R.Sx hx hkv;have eM:=cA hx;have c3:=R.eu;have g20:=R.g hx 20 _ rfl;have g24:=R.g hx 24 _ rfl;rw[hd]at g20;rw[hk]at g24;clear R hx hh hk hkv hb hd;unfold bR;go_enter func170,ntmps170;go_wp2_with fail
 go_quiet (fail);go_wp2;go_ret;exact⟨rfl,_,rfl⟩
theorem tj(R:bz af F w m S)(g:Nat)(x:bI)(hx:S.gs[g]?=some x)(p:Int):Calls prog 175 #[bR F,I g,I p] w (ee fun w'=>At af F m w m w' (S.ay g (eZ x p))):=by
 have eM:=cA hx;have c3:=R.eu;obtain⟨g2,xV⟩:=R.ef hx 2 _ rfl;have g21:=R.g hx 21 _ rfl;obtain⟨g24,E5⟩:=R.ef hx 24 _ rfl;obtain⟨aU,cm,aY,aZ⟩:=R.pB;obtain⟨a,c,hd⟩:=R.shape (r:=.aq g) (n:=x.aq.length) (by simp[aj,hx]);rw[hd]at g21;have A1:=(At.refl R).g hx {x with k:=x.aq.length} (q:=24) (v:=I x.aq.length);have A2:=A1.g (az hx) (eZ x p) (q:=2) (v:=I p);rw[aA]at A2;have HA:=ag A2;clear R hx A1 A2 hd;unfold bR;go_enter func175,ntmps175;go_wp2_with fail
 go_region
 all_goals
  go_wp2;go_end0;exact⟨rfl,HA.out.aI⟩
theorem LG(R:bz af F w m S)(g:Nat)(x:bI)(hx:S.gs[g]?=some x):Calls prog 179 #[bR F,I g] w (eL (I (hJ x)) fun w'=>w=w'):=by
 have eM:=cA hx;have c3:=R.eu;have g23:=R.g hx 23 _ rfl;obtain⟨a,c,hd⟩:=R.shape (r:=.wakes g) (n:=x.wakes.length) (by simp[aj,hx]);rw[hd]at g23;unfold hJ;by_cases hw:x.wakes=[]
 ·rw[aF hw];rw[show x.wakes.length=0 by rw[hw];rfl]at g23;clear R hx hd hw;unfold bR;go_enter func179,ntmps179;go_wp2;go_ret;exact⟨rfl,rfl⟩
 ·rw[aE hw];have hl:0<x.wakes.length:=pd hw;have hb:decide ((0:Int)<(x.wakes.length:Int))=true:=by simp;omega
  obtain⟨n,hn⟩:=dC (x.wakes.length);rw[←hn]at g23 hb hl;clear R hx hd hw hn;unfold bR;go_enter func179,ntmps179;go_wp2;go_ret;exact⟨rfl,rfl⟩
theorem Ka{n:Int}:kJ n=true↔ -1000000000≤n∧n≤1000000000:=by simp[kJ]
theorem lM{n:Int}(h:¬kJ n=false): -1000000000≤n∧n≤1000000000:=Ka.1 (by simpa using h)
theorem Il(A:At af F m0 w0 m w S)(l who:Int):Calls prog 169 #[.pointer (some ⟨F.dY,0,none⟩),I l,I who] w (eL (.bool (ek S.aq l who).2) fun w'=>At af F m0 w0 m w' {S with aq:=(ek S.aq l who).1}):=
 (EY A.bj l who).mono fun e w' ⟨h1,h2⟩=>⟨h1,A.cont h2⟩
theorem VS{x:List Int}{l who:Int}(h:(ek x l who).2=false):(ek x l who).1=x:=by
 unfold ek at h ⊢;split
 ·rename_i hc;rw[aF hc]at h;simp at h
 ·rfl
theorem E6(R:bz af F w m S)(g:Nat)(p:Int)(x:bI)(hx:S.gs[g]?=some x)(k:Nat)(hk:x.k=k)(l:Int)(hl:x.aq[k]?=some l)(VT:eX l)(hf:(ek S.aq (l-1) g).2=false):Calls prog 112 #[bR F,I g,I p] w (ee fun w'=>At af F m w m w' S):=by
 obtain⟨b,hb,hd,hc⟩:=R.CU hx hl;have eM:=cA hx;have vA:k<x.aq.length:=cA hl;have c3:=R.eu;have c7:=R.pC;obtain⟨g2,xV⟩:=R.ef hx 2 _ rfl;have g21:=R.g hx 21 _ rfl;obtain⟨g24,E5⟩:=R.ef hx 24 _ rfl;obtain⟨aU,cm,aY,aZ⟩:=R.pB;rw[hd]at g21;rw[hk]at g24;have HA:=ag (At.refl R);have HF:=ag hf;have HN:=ag (VS hf);clear R hx hl hb hd hk hf;unfold bR;go_enter func112,ntmps112;go_wp2_with fail
 refine wp_region_still_tail 16 (by kernel_rfl) (by kernel_rfl) ?_;change wpStill _ _ w.drew (fun a=>wpList _ _ _ _ a w.drew) _ _;simp only[sS,sX,sU,rC];repeat still_step
 refine wpStill_nil ?_;go_wp2_with (go_at_call 169;refine(Il (af:=af) (F:=F) (w0:=w) (m0:=m) (m:=m) (S:=S) ?_ (l-1) g).mono ?_;exact HA.out.aI;rintro e wN ⟨he,A0⟩;rw[HF.out]at he;subst he;rw[HN.out]at A0;have HB:=ag A0;clear A0);refine bodyPost_ret (results_none rfl _ _ _) rfl ?_;exact⟨rfl,HB.out⟩
theorem CV(R:bz af F w m S)(g:Nat)(p:Int)(x:bI)(hx:S.gs[g]?=some x)(k:Nat)(hk:x.k=k)(l:Int)(hl:x.aq[k]?=some l)(VT:eX l)(hf:(ek S.aq (l-1) g).2=true)(jA:(k:Int)≤1000000000)(ls:List Int)(VU:ls=(ek S.aq (l-1) g).1):Calls prog 112 #[bR F,I g,I p] w (ee fun w'=>At af F m w m w' (({S with aq:=ls}:Wd).ay g (if(k:Int)+1=x.aq.length then{x with k:=0,ae:=p}else{x with k:=k+1}))):=by
 obtain⟨b,hb,hd,hc⟩:=R.CU hx hl;have eM:=cA hx;have vA:k<x.aq.length:=cA hl;have c3:=R.eu;have c7:=R.pC;obtain⟨g2,xV⟩:=R.ef hx 2 _ rfl;have g21:=R.g hx 21 _ rfl;obtain⟨g24,E5⟩:=R.ef hx 24 _ rfl;obtain⟨aU,cm,aY,aZ⟩:=R.pB;rw[hd]at g21;rw[hk]at g24;have HA:=ag (At.refl R);have HF:=ag hf;have HL:=ag VU;have HX:Hid (({S with aq:=ls}:Wd).gs[g]?=some x):=hx;have HD:=ag hd;have HK:=ag hk;by_cases he:(k:Int)+1=x.aq.length
 ·rw[aF he];obtain⟨n,hn⟩:=dC (x.aq.length);have HN:=ag hn;rw[←hn]at g21 he vA;have Hy:((k:Int)+1==(n:Int))=true:=by simpa using he
  clear R hx hl hb hd hk hf VU he hn;unfold bR;go_enter func112,ntmps112;go_wp2_with fail
  refine wp_region_still_tail 16 (by kernel_rfl) (by kernel_rfl) ?_;change wpStill _ _ w.drew (fun a=>wpList _ _ _ _ a w.drew) _ _;simp only[sS,sX,sU,rC];repeat still_step
  refine wpStill_nil ?_;go_wp2_with (go_at_call 169;refine(Il (af:=af) (F:=F) (w0:=w) (m0:=m) (m:=m) (S:=S) ?_ (l-1) g).mono ?_;exact HA.out.aI;rintro e wN ⟨he,A0⟩;rw[HF.out]at he;subst he;rw[←HL.out]at A0;have RN:=A0.bj;have p2:=RN.g HX.out 2 _ rfl;have wW:=RN.frozen RN.aB.gs (g*25+2);have p21:=RN.g HX.out 21 _ rfl;have AJ:=RN.g HX.out 24 _ rfl;have AL:=RN.frozen RN.aB.gs (g*25+24);have Oj:x.k=k:=HK.out;rw[Oj]at AJ;rw[HD.out,←HN.out]at p21;have HB:=ag A0;clear A0 RN Oj);go_quiet (fail);go_wp2;go_end0;have B1:=HB.out.g HX.out {x with k:=k+1} (q:=24) (v:=I (k+1));have B2:=B1.g (az HX.out) {x with k:=0} (q:=24) (v:=I 0);rw[aA]at B2;have B3:=B2.g (az HX.out) {x with k:=0,ae:=p} (q:=2) (v:=I p);rw[aA]at B3;exact⟨rfl,B3.aI⟩
 ·rw[aE he];obtain⟨n,hn⟩:=dC (x.aq.length);have HN:=ag hn;rw[←hn]at g21 he vA;have Hy:((k:Int)+1==(n:Int))=false:=by simpa using he
  clear R hx hl hb hd hk hf VU he hn;unfold bR;go_enter func112,ntmps112;go_wp2_with fail
  refine wp_region_still_tail 16 (by kernel_rfl) (by kernel_rfl) ?_;change wpStill _ _ w.drew (fun a=>wpList _ _ _ _ a w.drew) _ _;simp only[sS,sX,sU,rC];repeat still_step
  refine wpStill_nil ?_;go_wp2_with (go_at_call 169;refine(Il (af:=af) (F:=F) (w0:=w) (m0:=m) (m:=m) (S:=S) ?_ (l-1) g).mono ?_;exact HA.out.aI;rintro e wN ⟨he,A0⟩;rw[HF.out]at he;subst he;rw[←HL.out]at A0;have RN:=A0.bj;have p2:=RN.g HX.out 2 _ rfl;have wW:=RN.frozen RN.aB.gs (g*25+2);have p21:=RN.g HX.out 21 _ rfl;have AJ:=RN.g HX.out 24 _ rfl;have AL:=RN.frozen RN.aB.gs (g*25+24);have Oj:x.k=k:=HK.out;rw[Oj]at AJ;rw[HD.out,←HN.out]at p21;have HB:=ag A0;clear A0 RN Oj);go_quiet (fail);go_wp2;go_end0;have B1:=HB.out.g HX.out {x with k:=k+1} (q:=24) (v:=I (k+1));exact⟨rfl,B1.aI⟩
end
theorem Sy:(prog.info? 2).map (fun i=>(i.zero,i.size,i.bytes))=some (some (I 0),1,8):=by kernel_rfl
theorem underlying57:prog.underlying 57=some (.slice 2):=by kernel_rfl
theorem E7{w:World}{B e g n:Nat}{xs:List Value}(h:w.ownsRow B e 1 (.slice (some ⟨g,0,none⟩) n n) n xs):w.heap[g]?=some (.cells xs.toArray e (0,0)):=rX h
structure Kb(w w':World)(n rb pb:Nat):Prop where
 below:Below w.heap.size w w'
 rb0:w.heap.size≤rb
 pb0:w.heap.size≤pb
 ne:rb≠pb
 eU:w'.heap[rb]?=some (.cells #[.slice (some ⟨pb,0,none⟩) n n,I 0,I 0] 159 (0,0))
 places:w'.heap[pb]?=some (.cells (List.replicate n (I 0)).toArray 2 (0,0))
theorem wY(n:Nat)(hn:n≤64)(w:World):Calls prog 193 #[I n,.slice none 0 0] w fun e w'=>∃rb pb,e=.returned (.tuple #[.pointer (some ⟨rb,0,none⟩),I 0])∧Kb w w' n rb pb:=by
 obtain⟨i0,hi,fV,gF,gG⟩:=info_parts Sy;have h0:decide ((n:Int)<0)=false:=by simp
 have h1:decide ((64:Int)<(n:Int))=false:=by simp;omega
 go_enter func193,ntmps193;go_wp2_with (at_make;go_loud (refine wpList_make_full _ rfl _ _ 57 rfl w.heap.size 2 i0 (.int .i64 0) 1 underlying57 hi fV gF _ _ _ _ n rfl rfl rfl rfl (by rw[gG];omega) (by unfold maxLen;omega) cG ?_));intro w1 hown bX;have gq:Below w.heap.size w w1:=(fp _ _).grown bX cG (by intro k hk;cases hk);rw[toList_madeCells_one]at hown;have AA:=ag (E7 hown);clear hown bX;go_wp2_with (with_reducible refine wpList_copy_nothing rfl (.tmp 28) (.tmp 29) 57 57 rfl 2 underlying57 (by kernel_rfl) _ _ _ _ _ _ rfl rfl (by simp) ?_);go_ret2;have dD:w.heap.size<w1.heap.size:=(dh AA.out).1;refine⟨w1.heap.size,w.heap.size,rfl,gq.alloc gq.size _,gq.size,Nat.le_refl _,by omega,dP w1 _,?_⟩;rw[gf w1 _ _ dD];exact AA.out
theorem CW(n:Nat)(hn:n≤64)(w:World):Calls prog 200 #[I n] w fun e w'=>∃rb pb,e=.returned (.tuple #[.pointer (some ⟨rb,0,none⟩),I 0])∧Kb w w' n rb pb:=by
 have HC:=ag (fun w=>wY n hn w);go_enter func200,ntmps200;go_wp2_with (go_at_call 193;refine(HC.out _).mono ?_;rintro e w' ⟨rb,pb,rfl,h⟩;have HR:=ag h;clear h);go_ret2;exact⟨rb,pb,rfl,HR.out⟩
section
variable{af:Nat}{F:Fx}{w w0 w':World}{m m0 m':Mem}{S S':Wd}{L:List (Nat×Obj)}
theorem yL{o:Option Nat}{c:Nat}{l:List Int}:∀r',r'≠bH.dQ→r'≠ .dY→aj (m.eG .dQ o c) {S with aq:=l} r'=aj m S r':=by
 intro r' h1 h2;have hu:∀r,r≠bH.dQ→∀n,(m.eG .dQ o c).cU r n=m.cU r n:=fun r hr n=>Mem.qv m o c n hr
 cases r'<;>first
  |exact aX rfl h1
  |exact aX rfl h2
  |rfl
  |(simp only[aj,gk,Cu,je,Mem.sL _ _ _ (show bH.au≠ .dQ by simp),hu _ (show _≠bH.dQ by simp),ne_eq,reduceCtorEq,not_false_eq_true];done)
theorem At.LH{w1:World}(A:At af F m0 w0 m w S){g c:Nat}{l:List Int}(hg:w.grownBy w1 (m.aV .dQ))(hown:w1.ownsRow af 3 1 (.slice (some ⟨g,0,none⟩) l.length c) l.length (l.map I))(bE:m.aV .dQ=some g∨w.heap.size≤g):At af F m0 w0 (m.eG .dQ (some g) c) (w1.setCell ⟨F.dY,0,none⟩ (.slice (some ⟨g,0,none⟩) l.length c)) {S with aq:=l}:=
 A.row (r:=.dQ) (p:=(3,1)) rfl (by intro q hq;simp[eI]at hq;exact hq.symm) A.bj.aB.dY (by simp) hg hown bE rfl (by simp only[aj,Mem.uH];rfl) yL
theorem yM{o:Option Nat}{c:Nat}{l:List Bool}:∀r',r'≠bH.aO→r'≠ .al→aj (m.eG .aO o c) {S with aO:=l} r'=aj m S r':=by
 intro r' h1 h2;have hu:∀r,r≠bH.aO→∀n,(m.eG .aO o c).cU r n=m.cU r n:=fun r hr n=>Mem.qv m o c n hr
 cases r'<;>first
  |exact aX rfl h1
  |exact aX rfl h2
  |rfl
  |(simp only[aj,gk,Cu,je,Mem.sL _ _ _ (show bH.au≠ .aO by simp),hu _ (show _≠bH.aO by simp),ne_eq,reduceCtorEq,not_false_eq_true];done)
theorem At.BP{w1:World}(A:At af F m0 w0 m w S){g c:Nat}{l:List Bool}(hg:w.grownBy w1 (m.aV .aO))(hown:w1.ownsRow af 4 1 (.slice (some ⟨g,0,none⟩) l.length c) l.length (l.map B))(bE:m.aV .aO=some g∨w.heap.size≤g):At af F m0 w0 (m.eG .aO (some g) c) (w1.setCell ⟨F.al,6,none⟩ (.slice (some ⟨g,0,none⟩) l.length c)) {S with aO:=l}:=
 A.row (r:=.aO) (p:=(4,1)) rfl (by intro q hq;simp[eI]at hq;exact hq.symm) A.bj.aB.al (by simp) hg hown bE rfl (by simp only[aj,Mem.cU,Mem.ptr,Mem.eG,reduceCtorEq,dF,dt];rfl) yM
theorem CX{w2 W3 w3:World}{gg cap:Nat}{v:Value}{o:Obj}{z:Int}(A:At af F m0 w0 m w2 S)(hW:W3=w2.alloc o)(jz:v.ownBlock=m.aV .dQ)(ho:w3.ownsRow af 3 1 (.slice (some ⟨gg,0,none⟩) (S.aq.length+1) cap) (S.aq.length+1) (S.aq.map I++[I z]))(hg:W3.grownBy w3 v.ownBlock)(hw:v.ownBlock=some gg∨W3.heap.size≤gg):At af F m0 w0 (m.eG .dQ (some gg) cap) (w3.setCell ⟨F.dY,0,none⟩ (.slice (some ⟨gg,0,none⟩) (S.aq.length+1) cap)) {S with aq:=S.aq++[z]}:=by
 subst hW;rw[jz]at hg hw;have hl:(S.aq++[z]).length=S.aq.length+1:=by simp
 have h:=(A.alloc o).LH (l:=S.aq++[z]) (g:=gg) (c:=cap) hg (by rw[hl,List.map_append];exact ho) hw;rw[hl]at h;exact h
theorem AM(R:bz af F w m S)(hl:S.aq.length≤4000):Calls prog 202 #[.pointer (some ⟨F.dY,0,none⟩)] w (eL (I S.aq.length) fun w'=>To af F m w {S with aq:=S.aq++[-1]} w'):=by
 obtain⟨i0,hi,fV,gF,gG⟩:=info_parts lC;have c0:=R.sM;have Ol:=R.lt R.aB.dY;have HA:=ag (At.refl R);obtain⟨n,hn⟩:=dC (S.aq.length);obtain⟨a,c,hh⟩:=lL R;obtain⟨v,hv⟩:=dC (m.cU .dQ S.aq.length);have hown:=R.owns (r:=.dQ) (p:=(3,1)) rfl (by decide) (n:=n) (by simp only[aj,ko];omega);rw[hn,←hv,←hn]at hown;have Kc:Hid (v.ownBlock=m.aV .dQ):=by rw[hv,Mem.mM];exact ag rfl
 have E8:Hid (v.ownBlock≠some F.dY):=by rw[Kc.out];exact R.jv R.aB.dY (by simp)
 have hvs:v=.slice a n c:=by rw[hv,hh,hn]
 rw[hh,←hn]at c0;rw[hvs]at hown Kc E8;have fc0:=R.frozen R.aB.dY 0;have HO:=ag hown;have HN:=ag hn;have qq:=R.eS;have hb:decide ((4096:Int)≤(n:Int))=false:=by simp;omega
 rw[←hn]at hl ⊢;clear R hv hvs hh hown hn;go_enter func202,ntmps202;go_wp2_with (at_builtin;go_loud (refine jw (us:=#[I (-1)]) (w2:=w) rfl (.tmp 13) (.tmp 14) 28 rfl underlying28 hi fV gF gG rfl (by decide) (by decide) rfl rfl (qa (-1)) (.slice a n c) n _ rfl HO.out rfl (by omega) qq ?_));intro gg cap w3 er bX bE;have d0:=fW (o:=.cells #[I (-1)] 3) bX c0 rfl E8.out;have fd0:=fN (o:=.cells #[I (-1)] 3) bX fc0 Ol rfl E8.out;have HC:=ag (CX (z:= -1) HA.out rfl Kc.out (by rw[←HN.out];exact er) bX (by simpa using bE));rw[←HN.out]at HC;clear er bX bE;go_wp2;go_ret;trace_state;exact⟨rfl,_,HC.out⟩
end
theorem Im(x y:Nat)(hx:x<18446744073709551616)(hy:y<18446744073709551616)(w:World):Calls prog 222 #[.int .u64 x,.int .u64 y] w fun e w'=>e=.returned (.tuple #[.int .u64 ((x*y / 18446744073709551616:Nat):Int),.int .u64 ((x*y % 18446744073709551616:Nat):Int)])∧w=w':=by
 obtain⟨bd,bt,bw,hhi⟩:=Lib.mul64_hi x y hx hy;have ba:=Lib.half_mul_le (a:=x / 4294967296) (b:=y / 4294967296) (by omega) (by omega);have bb:=Lib.half_mul_le (a:=x / 4294967296) (b:=y % 4294967296) (by omega) (by omega);have bc:=Lib.half_mul_le (a:=x % 4294967296) (b:=y / 4294967296) (by omega) (by omega);have ba':x / 4294967296*(y / 4294967296)<18446744073709551616:=by omega
 have bb':x / 4294967296*(y % 4294967296)<18446744073709551616:=by omega
 have bc':x % 4294967296*(y / 4294967296)<18446744073709551616:=by omega
 have bh1:x / 4294967296*(y / 4294967296)+(x / 4294967296*(y % 4294967296)+x % 4294967296*(y % 4294967296) / 4294967296) / 4294967296<18446744073709551616:=by omega
 have bh:x / 4294967296*(y / 4294967296)+(x / 4294967296*(y % 4294967296)+x % 4294967296*(y % 4294967296) / 4294967296) / 4294967296+((x / 4294967296*(y % 4294967296)+x % 4294967296*(y % 4294967296) / 4294967296) % 4294967296+x % 4294967296*(y / 4294967296)) / 4294967296<18446744073709551616:=by omega
 go_enter func222,ntmps222;go_wp2;simp only[Mul64.maskN x hx,Mul64.maskN y hy,Mul64.divN,Mul64.mulN,Mul64.addN,Mul64.wrapN _ bd,Mul64.wrapN _ bb',Mul64.wrapN _ bt,Mul64.maskN _ bt,Mul64.wrapN _ bc',Mul64.wrapN _ bw,Mul64.wrapN _ ba',Mul64.wrapN _ bh1,Mul64.wrapN _ bh,Mul64.wrapM (x*y)];rw[hhi];go_ret2;exact⟨rfl,rfl⟩
theorem Om(n:Nat)(hn:n≤1000)(w:World):Calls prog 217 #[.int .u64 1,.int .u64 n] w (eL (.tuple #[.int .u64 0,.int .u64 n]) fun w'=>w=w'):=by
 have c:=Im 1 n (by omega) (by omega) w;rw[show 1*n / 18446744073709551616=0 by omega,show 1*n % 18446744073709551616=n by omega]at c;have HC:=ag c;clear c;go_enter func217,ntmps217;go_wp2_with (go_at_call 222;refine HC.out.mono ?_;rintro e w' ⟨rfl,rfl⟩);go_ret2;exact⟨rfl,rfl⟩
def Part(B n:Nat)(w:World)(k:Nat)(wr:World):Prop:=wr.heap[B]?=some (.cells (List.replicate k (I (-1))++List.replicate (n-k) (I 0)).toArray 3 (0,0))∧Below w.heap.size w wr
theorem wZ{n k c:Nat}(hc:k+c≤n):splice (List.replicate k (I (-1))++List.replicate (n-k) (I 0)) k (List.replicate c (I (-1)))=List.replicate (k+c) (I (-1))++List.replicate (n-(k+c)) (I 0):=by
 unfold splice;simp only[vE];rw[List.take_append_of_le_length (by simp),yl (by simp),List.drop_append,vE];rw[List.drop_of_length_le (by simp),List.nil_append,show k+c-k=c by omega,List.drop_replicate,show n-k-c=n-(k+c)by omega];rw[←List.append_assoc,List.replicate_append_replicate]
theorem E9(b n:Nat)(xS:1≤n)(hn:n≤1000)(w:World)(hc:w.cell? ⟨b,0,none⟩=some (I (-1))):Calls prog 210 #[.slice (some ⟨b,0,none⟩) 1 1,I n] w (eL (.slice (some ⟨w.heap.size,0,none⟩) n n) fun w'=>w'.heap[w.heap.size]?=some (.cells (List.replicate n (I (-1))).toArray 3 (0,0))∧Below w.heap.size w w'):=by
 obtain⟨i0,hi,fV,gF,gG⟩:=info_parts lC;have HM:=ag (fun w=>Om n hn w);have HC:=ag hc;clear hc;go_enter func210,ntmps210;go_wp2_with (first|(go_at_call 217;refine(HM.out _).mono ?_;rintro e w1 ⟨rfl,rfl⟩)|(at_make;go_loud (refine wpList_make_full _ rfl _ _ 28 rfl w.heap.size 3 i0 (.int .i64 0) 1 underlying28 hi fV gF _ _ _ _ n rfl rfl rfl rfl (by rw[gG];omega) (by unfold maxLen;omega) cG ?_)));intro w1 hown bX;have gq:Below w.heap.size w w1:=(fp _ _).grown bX cG (by intro k hk;cases hk);rw[toList_madeCells_one]at hown;have AA:=ag (rX hown);have Y9:w1.cell? ⟨b,0,none⟩=some (I (-1)):=by rw[gq.cell (p:=⟨b,0,none⟩) (xo w _ HC.out)];exact HC.out
 have HS:=ag Y9;clear hown bX Y9;go_wp2_with (with_reducible refine wpList_copy_splice rfl (.tmp 31) (.tmp 32) 28 28 rfl 3 underlying28 (by kernel_rfl) _ _ _ _ _ _ rfl rfl w.heap.size 0 (List.replicate n (.int .i64 0)) 3 AA.out (List.replicate 1 (I (-1))) ?c1 ?c2 ?c3 ?c4 w.heap.size w gq cG ?_)
 case c1=>rw[vE];exact(Nat.min_eq_left xS).symm
 case c2=>
  intro j v hv;match j,hv with
  |0,hv=>simp at hv;subst hv;exact HS.out
 case c3=>simp;omega
 case c4=>
  intro v hv;simp at hv;subst hv;rfl
 intro w2 HG mz;have HP:Hid (Part w.heap.size n w 1 w2):=by refine⟨?_,mz⟩;have e:splice (List.replicate n (Value.int .i64 0)) 0 [I (-1)]=List.replicate 1 (I (-1))++List.replicate (n-1) (I 0):=wZ (n:=n) (k:=0) (c:=1) (by omega);have h:=HG.out;rw[e]at h;exact h
 clear HG mz gq AA HS;go_wp2;go_loopw [8] (fun v wr=>∃k:Nat,v=.int .i64 k∧1≤k∧k≤n∧Hid (Part w.heap.size n w k wr)) (fun v _=>n-(intOf v).toNat)
 case atStart=>exact⟨1,rfl,by omega,by omega,HP⟩
 case round=>
  clear HP;obtain⟨k,rfl,jg,hk,HP⟩:=hrel;by_cases dD:k<n
  ·obtain⟨c,mP⟩:=dC (min k (n-k));have Np:=ag (fun(ops:Array Oper) (o:Oper) (ac:Act) (K:Act→World→Prop) (Q:Exit→Act→World→Prop) (E:Prop)=>step_copy_splice (P:=prog) (ops:=ops) (o:=o) (a:=ac) (w:=wr.drew) (K:=K) (Q:=Q) (E:=E) (d:=.tmp 41) (s:=.tmp 44) (dT:=28) (sT:=28) (elem:=3) (hu:=underlying28) (hsz:=by kernel_rfl) (dp:=some ⟨w.heap.size,k,none⟩) (sp:=some ⟨w.heap.size,0,none⟩) (dLen:=n-k) (dCap:=n-k) (sLen:=k) (sCap:=n) (g:=w.heap.size) (off:=k) (cur:=List.replicate k (I (-1))++List.replicate (n-k) (I 0)) (t:=3) (hg:=HP.out.1) (cs:=List.replicate c (I (-1))) (hn:=by simp[mP]) (hpos:=fun _=>⟨rfl,_,rfl,fun j v hv=>by have hj:=cA hv;simp at hj;have hv2:v=I (-1):=(by rw[uA]at hv;split at hv<;>simp_all);subst hv2;rw[Addr.add_lit];show wr.cell? ⟨w.heap.size,0+j,none⟩=_;rw[cr wr _ _ _ _ _ HP.out.1];rw[List.getElem?_toArray,Ev (by simp;omega),uA];simp;omega⟩) (hfit:=by simp;omega) (h1:=by intro v hv;simp at hv;rw[hv.2];rfl) (B:=w.heap.size) (w0:=w) (hb:=HP.out.2.drew) (hBg:=Nat.le_refl _));have hnk:¬n=k:=(by omega);go_wp2;go_region_law (refine Np.out _ _ _ _ _ _ rfl rfl (by simp[Act.eval,Act.put,hnk]) (by simp[Act.eval,Act.put]) ?_;intro w4 hg4 R8)
   all_goals
    have G6:Hid (Part w.heap.size n w (k+c) w4):=(by refine⟨?_,R8⟩;have h:=hg4.out;rw[wZ (by omega)]at h;exact h);go_wp2;go_roundw
    case rel=>
     refine⟨_,_,_,_,_,_,_,_,_,_,_,_,_,_,⟨k+c,?_,by omega,by omega,G6⟩,rfl⟩;subst mP;first|rfl|(rw[jX _ (by omega)];simp)|simp
    case measure=>
     have hw:=jX ((k:Int)+((min k (n-k):Nat):Int)) (by omega);simp only[Act.put,intOf];rw[hw];simp;omega
  ·obtain rfl:k=n:=by omega
   go_wp2;go_ret;have h:=HP.out.1;simp only[Nat.sub_self,List.replicate_zero,List.append_nil]at h;exact⟨rfl,h,HP.out.2⟩
section
variable{af:Nat}{F:Fx}{w w0:World}{m m0:Mem}{S:Wd}
def uU(l:List Nat):List Value:=l.map fun(x:Nat)=>I ((x:Nat):Int)
theorem yN(R:bz af F w m S){ls:List (List Nat)}(q:V.xQ S.aw ls)(k:Nat)(l:List Nat)(hk:ls[k]?=some l)(hl:l.length≤1000)(vA:S.aw.bM.length≤1000)(htl:S.aw.aS.length≤1000):Calls prog 56 #[.pointer (some ⟨F.aw,0,none⟩),I k] w fun e w'=>∃a c,e=.returned (.slice a l.length c)∧gC w' a l.length (uU l)∧Below w.heap.size w w'∧∀b off,a=some ⟨b,off,none⟩→w.heap.size≤b∧b<w'.heap.size:=by
 obtain⟨i0,hi,fV,gF,gG⟩:=info_parts lC;have sN:∀W:World,(Instr.makeSlice 28 (I 0) (I l.length)).run prog W=.ok (.slice (some ⟨W.heap.size,0,none⟩) 0 l.length) (W.alloc (.cells (madeCells (I 0).cells (l.length*i0.size)) 3)):=fun W=>et (P:=prog) 28 3 i0 _ underlying28 hi fV .i64 .i64 0 l.length (Nat.zero_le _) (by rw[gG];omega) (by omega) W
 rw[gF]at sN;have ai8:k<S.aw.bM.length:=by rw[q.len];exact fm hk
 have UI:=q.line k l hk;obtain⟨L0,L1,L2⟩:=R.line UI;have c1:=R.yq;have lt1:=R.lt R.aB.aw;have lt2:=R.lt R.aB.bM;obtain⟨NL,hNL⟩:∃N,N=S.aw.bM.length:=⟨_,rfl⟩;rw[←hNL]at c1 ai8 vA;obtain⟨n,hn⟩:=dC (l.length);rw[←hn]at sN hl ⊢;simp only at L0 L1 L2;rw[←hn]at L2;obtain⟨HR,HQ,HK,Hn⟩:=ia R q hk hn;obtain⟨x0,Hm⟩:=dC (V.BC l);rw[←Hm]at L0;have HX0:=ag Hm;clear R q hk hn UI hNL Hm L1;go_enter func56,ntmps56;go_wp2_with go_in;have jf:Hid (∃cp,(w.alloc (.cells (madeCells #[I 0] n) 3)).ownsRow w.heap.size 3 1 (.slice (some ⟨w.heap.size,0,none⟩) 0 cp) 0 (uU (l.take 0))∧cp=n∧Below w.heap.size w (w.alloc (.cells (madeCells #[I 0] n) 3))):=by refine⟨n,⟨rfl,.inr ⟨w.heap.size,n,_,rfl,Nat.le_refl _,dP _ _,Nat.zero_le _,by unfold maxLen;omega,by simp[size_madeCells],by simp[uU]⟩⟩,rfl,(fp _ _).alloc cG _⟩
 clear sN c1 L0 L2;go_loopw [5,6] (fun out x wr=>∃(j g cp:Nat),out=.slice (some ⟨g,0,none⟩) j cp∧j≤n∧x=I (V.BC (l.drop j))∧Hid (wr.ownsRow w.heap.size 3 1 (.slice (some ⟨g,0,none⟩) j cp) j (uU (l.take j))∧Below w.heap.size w wr)) (fun out _ _=>n-(match out with| .slice _ j _=>j|_=>0))
 case atStart=>
  obtain⟨cp,h1,h2,h3⟩:=jf.out;subst h2;exact⟨0,w.heap.size,cp,rfl,by omega,by rw[rC,←HX0.out],h1,h3⟩
 case round=>
  clear jf;obtain⟨j,g,cp,rfl,hj,rfl,HW⟩:=hrel;by_cases dD:j<n
  ·obtain⟨y,hy⟩:∃y,l[j]?=some y:=⟨_,fv (by rw[←Hn.out];exact dD)⟩;have cU:l.drop j=y::l.drop (j+1):=by obtain⟨h1,rfl⟩:=uC hy;exact List.drop_eq_getElem_cons h1
   have Ax:l=l.take j++y::l.drop (j+1):=(by rw[←cU,List.take_append_drop]);have N5:=HQ.out.thing k (l.take j) (l.drop (j+1)) y (by rw[←Ax];exact HK.out);have hyl:y<S.aw.aS.length:=fm N5;rw[cU,V.lF];obtain⟨NT,hNT⟩:∃N,N=S.aw.aS.length:=⟨_,rfl⟩;rw[←hNT]at hyl htl;have VJ:=ag N5;have HY:=ag (dO hy hNT);have qq:w.heap.size≤wr.heap.size:=HW.out.2.size;have nv:=ag HW.out.1;clear N5 cU Ax hy hNT;go_wp2_with (first|(at_builtin;go_loud (refine od (us:=#[I y]) (w2:=wr) rfl (.tmp 38) (.tmp 40) 28 rfl underlying28 hi fV gF gG rfl (by decide) (by decide) rfl rfl (by simp[Value.oneCell']) (.slice (some ⟨g,0,none⟩) j cp) j _ rfl nv.out wr.heap.size rfl rfl (by omega) qq ?_)));intro g2 On w3 er kX gp
   have yJ:Below w.heap.size w w3:=by
    refine(HW.out.2.alloc qq _).grown kX (by simp;omega) (fun b hb=>?_);simp[Value.ownBlock]at hb;subst hb;rcases nv.out.2 with⟨h1,h2⟩|⟨g',_,_,h1,h2,_⟩
    ·cases h1
    ·simp only[Value.slice.injEq,oZ,Addr.mk.injEq]at h1;rw[h1.1.1];exact h2
   have R3:=HR.out.below yJ;have c0:=R3.xN;rw[←HY.out.2]at c0;have t1:=(R3.thing VJ.out).2.1;have HN:Hid (w3.ownsRow w.heap.size 3 1 (.slice (some ⟨g2,0,none⟩) (j+1) On) (j+1) (uU (l.take (j+1)))∧Below w.heap.size w w3):=(by refine⟨?_,yJ⟩;rw[ox HY.out.1];unfold uU at er ⊢;simpa using er);clear HW nv er kX gp yJ R3 qq;go_wp2;go_roundw
   case rel=>exact⟨j+1,g2,On,by simp,by omega,rfl,HN⟩
   case measure=>(try simp);omega
  ·obtain rfl:j=n:=by omega
   have kK:l.drop j=[]:=(by rw[Hn.out];exact List.drop_length);rw[kK,V.CE];clear kK;go_wp2;go_ret;obtain⟨h1,h2⟩:=HW.out;rw[Hn.out,List.take_length,←Hn.out]at h1;exact⟨_,_,rfl,gC.tO h1,h2,lJ h1⟩
end
theorem lN{fn:Func}{p:Tmp}{ty:TypeId}(h:fn.results=#[.cell p ty])(tmps:Array Value)(w:World)(b:Nat)(cs:Array Value)(t:TypeId)(fr:Nat×Nat)(hu:∃d,prog.underlying ty=some d∧(match d with| .struct _| .array _ _=>true|_=>false)=true)(hi:(prog.info? ty).map (·.size)=some cs.size)(hp:tmps.getD p undef=.pointer (some ⟨b,0,none⟩))(hg:w.heap[b]?=some (.cells cs t fr)):(results fn tmps).run prog w=.ok (.agg cs) w:=by
 obtain⟨d,hu,hd⟩:=hu;have vT:tmps[p]?.getD undef=.pointer (some ⟨b,0,none⟩):=by simpa using hp
 have hr:(loadVar ty ⟨b,0,none⟩).run prog w=.ok (.agg cs) w:=by
  cases d with
  |struct f=>exact run_loadVar_row w b t ty cs fr _ hg hu rfl hi
  |array f e=>exact run_loadVar_row w b t ty cs fr _ hg hu rfl hi
  |_=>cases hd
 simp[results,h,vT,asAddr,hr]
theorem uV:∃d,prog.underlying 41=some d∧(match d with| .struct _| .array _ _=>true|_=>false)=true:=⟨_,underlying41,rfl⟩
theorem jB:(prog.info? 41).map (·.size)=some 12:=by kernel_rfl
theorem fY.rd{lo:Nat}{w0 w:World}{p:List (List cu)}{j:Nat}{aV:CK→Option Nat}{cap:CK→Nat}{c:CK→List Value}(H:fY lo w0 w p j 0 aV cap c){i:Nat}(hi:i<j)(hl:(p.getD i []).length≤9223372036854775807)(hI:∀o∈p.getD i [],pW o.ai∧pW o.ch∧pW o.n∧pW o.v∧o.cases.length≤9223372036854775807∧∀c∈o.cases,pW c.ch∧pW c.v){W:World}(hW:∀b,lo≤b→b<w.heap.size→W.heap[b]?=w.heap[b]?):kC W (UH (aV (some (.ops i)))) (p.getD i []):=by
 refine⟨hl,fun q o ho=>?_⟩;have mA:=H.rows i hi
 obtain⟨b,hb⟩:∃b,aV (some (.ops i))=some b:=by
  cases hb:aV (some (.ops i)) with
  |none=>
   have:=H.own.none_ _ hb;rw[mA]at this;rw[nu (f:=J6 aV cap i) (k:=6) (fun _ _=>rfl) (by decide) this]at ho
   cases ho
  |some b=>exact⟨b,rfl⟩
 obtain⟨i1,i2,i3,i4,i5,i6⟩:=hI o (lf ho);have hWc:∀(k:CK) (b j:Nat) (v:Value),aV k=some b→w.cell? ⟨b,j,none⟩=some v→W.cell? ⟨b,j,none⟩=some v:=fun k b j v hb hv=>by rw[kZ (w:=w) (a:=⟨b,j,none⟩) (hW b (H.own.lies k b hb).1 (H.own.lt hb))];exact hv
 have cell:=fun t ht v hv=>hWc _ _ _ _ hb <| H.own.cell (k:=some (.ops i)) (j:=q*6+t) (v:=v) hb (by rw[mA];have:=fq (f:=J6 aV cap i) (k:=6) (fun _ _=>rfl) (p.getD i []) 0 q t o ho ht;rw[Nat.zero_add]at this;rw[this];exact hv)
 obtain⟨x,cx,hx,hxe⟩:∃x cx,nG (aV (some (.cases i q))) o.cases.length (cap (some (.cases i q)))=.slice x o.cases.length cx∧gW W x o.cases:=by
  have mP:=H.rU i q o (.inl hi) ho
  cases mz:aV (some (.cases i q)) with
  |none=>
   have:=H.own.none_ _ mz;rw[mP]at this;have h0:=nu (f:=fT) (k:=3) (fun _ _=>rfl) (by decide) this;refine⟨none,0,by rw[h0];rfl,i5,fun k c hk=>?_⟩;rw[h0]at hk;cases hk
  |some b2=>
   refine⟨_,_,rfl,i5,fun k c hk=>⟨b2,0,rfl,?_⟩⟩;have c2:=fun t ht v hv=>hWc _ _ _ _ mz <| H.own.cell (k:=some (.cases i q)) (j:=k*3+t) (v:=v) mz (by rw[mP];have:=fq (f:=fT) (k:=3) (fun _ _=>rfl) o.cases 0 k t c hk ht;rw[this];exact hv)
   have:=i6 c (lf hk);simp only[Nat.zero_add];exact⟨c2 0 (by omega) _ rfl,c2 1 (by omega) _ rfl,c2 2 (by omega) _ rfl,this.1,this.2⟩
 refine⟨b,0,x,cx,by rw[hb];rfl,?_⟩;simp only[Nat.zero_add];exact⟨cell 0 (by omega) _ rfl,cell 1 (by omega) _ rfl,cell 2 (by omega) _ rfl,cell 3 (by omega) _ rfl,cell 4 (by omega) _ (by rw[←hx];rfl),cell 5 (by omega) _ rfl,hxe,i1,i2,i3,i4⟩
def Oo:Array Value→Nat→List Value→Array Value
 |arr,_,[]=>arr
 |arr,o,v::vs=>Oo (arr.setIfInBounds o v) (o+1) vs
theorem oL{b:Nat}{t:TypeId}:∀(vs:List Value) (o:Nat) (w:World) (arr:Array Value),w.heap[b]?=some (.cells arr t (0,0))→(w.setCells b o vs).heap[b]?=some (.cells (Oo arr o vs) t (0,0))
 | [],_,_,_,h=>h
 |v::vs,o,w,arr,h=>oL vs (o+1) _ _ (heap_setCell_same w b o arr t v h)
theorem BQ:∀(vs:List Value) (o:Nat) (arr:Array Value),(Oo arr o vs).toList=fe arr.toList o vs
 | [],_,_=>rfl
 |v::vs,o,arr=>by rw[Oo,fe,BQ vs (o+1),Array.toList_setIfInBounds]
theorem dI{b:Nat}{t:TypeId}{w:World}{arr cs:Array Value}(h:w.heap[b]?=some (.cells arr t (0,0)))(hs:arr.size=cs.size):(w.setCells b 0 cs.toList).heap[b]?=some (.cells cs t (0,0)):=by
 have h1:=oL cs.toList 0 w arr h;have h2:=yG cs.toList arr.toList [] [] (by simpa using hs);have h3:Oo arr 0 cs.toList=cs:=by apply Array.toList_inj.1;rw[BQ];simpa using h2
 rw[h3]at h1;exact h1
theorem Below.setCells{B b:Nat}{a:World}(hb:B≤b):∀(vs:List Value) (o:Nat) (w:World),Below B a w→Below B a (w.setCells b o vs)
 | [],_,_,h=>h
 |v::vs,o,w,h=>Below.setCells hb vs (o+1) _ (h.setCell hb v)
theorem mR{A:Array Value}{f:Value→Bool}(h:A.all f=true){j:Nat}{v:Value}(hv:f v=true):(A.setIfInBounds j v).all f=true:=by
 rw[Array.all_eq_true]at h ⊢;intro i hi;rw[Array.getElem_setIfInBounds];split
 ·exact hv
 ·exact h i (by simpa using hi)
def CY(os:List cu):Prop:=os.length≤100∧∀o∈os,pW o.ai∧pW o.ch∧pW o.n∧pW o.v∧o.cases.length≤100∧∀c∈o.cases,pW c.ch∧pW c.v
theorem BR{os:List cu}(h:CY os):CQ [os]:=by
 refine⟨by simp,fun j=>?_,fun j k o ho=>?_⟩
 ·cases j with
  |zero=>exact h.1
  |succ j=>simp
 ·cases j with
  |zero=>exact(h.2 o (lf ho)).2.2.2.2.1
  |succ j=>simp at ho
def qh(A:Array Value)(v0 v1 v2 v3 v4:Value):Array Value:=((((A.setIfInBounds 0 v0).setIfInBounds 20 v1).setIfInBounds 21 v2).setIfInBounds 22 v3).setIfInBounds 23 v4
structure CG(w W:World)(bx rs:Nat)(A Z:Array Value):Prop where
 below:Below w.heap.size w W
 le:w.heap.size≤bx∧w.heap.size≤rs∧bx≠rs
 box:W.heap[bx]?=some (.cells A 100 (0,0))
 res:W.heap[rs]?=some (.cells Z 100 (0,0))
section
variable{w W W':World}{bx rs:Nat}{A Z:Array Value}
theorem CG.call(H:CG w W bx rs A Z)(hb:Below W.heap.size W W'):CG w W' bx rs A Z:=
 ⟨H.below.trans (hb.mono H.below.size),H.le,(hb.block _ (dh H.box).1).trans H.box,(hb.block _ (dh H.res).1).trans H.res⟩
theorem CG.alloc(H:CG w W bx rs A Z)(o:Obj):CG w (W.alloc o) bx rs A Z:=H.call ((fp _ _).alloc cG o)
theorem CG.grown(H:CG w W bx rs A Z)(hg:W.grownBy W' none):CG w W' bx rs A Z:=H.call ((fp _ _).grown hg cG (by intro k hk;cases hk))
theorem CG.set(H:CG w W bx rs A Z)(j:Nat)(v:Value):CG w (W.setCell ⟨bx,j,none⟩ v) bx rs (A.setIfInBounds j v) Z:=
 ⟨H.below.setCell H.le.1 v,H.le,heap_setCell_same W bx j A 100 v H.box,(fQ _ _ _ _ (by simpa using dE H.le.2.2)).trans H.res⟩
theorem CG.cell(H:CG w W bx rs A Z){j:Nat}{v:Value}(h:A[j]?=some v):W.cell? ⟨bx,j,none⟩=some v:=by rw[cr _ _ _ _ _ _ H.box];exact h
theorem CG.frozen(H:CG w W bx rs A Z)(j:Nat):W.frozen? ⟨bx,j,none⟩=false:=iM _ _ _ _ _ H.box
theorem CG.Ib(H:CG w W bx rs A Z){a:Option Addr}{n:Nat}{cs:List Value}(h:gC w a n cs):gC W a n cs:=h.below H.below cG
end
theorem gC.grown{w w':World}{a:Option Addr}{n:Nat}{cs:List Value}(h:gC w a n cs)(hg:Below w.heap.size w w'):gC w' a n cs:=h.below hg cG
theorem gC.set{w:World}{a:Option Addr}{n:Nat}{cs:List Value}(h:gC w a n cs){b j:Nat}(v:Value)(cM:∀b' off,a=some ⟨b',off,none⟩→b'≠b):gC (w.setCell ⟨b,j,none⟩ v) a n cs:=fun h0=>by
 obtain⟨b',off,e,h1⟩:=h h0;refine⟨b',off,e,fun i u hu=>?_⟩;rw[kZ (w:=w) (fQ _ _ _ _ (by simpa using cM b' off e))];exact h1 i u hu
def iR(lo:Nat)(w w':World):Prop:=w.heap.size≤w'.heap.size∧∀b,lo≤b→b<w.heap.size→w'.heap[b]?=w.heap[b]?
theorem iR.mono{lo uw:Nat}{w w':World}(h:iR lo w w')(hl:lo≤uw):iR uw w w':=⟨h.1,fun b h1 h2=>h.2 b (by omega) h2⟩
theorem iR.trans{lo:Nat}{w w' w2:World}(h:iR lo w w')(k:iR lo w' w2):iR lo w w2:=⟨jm h.1 k.1,fun b h1 h2=>(k.2 b h1 (uB h2 h.1)).trans (h.2 b h1 h2)⟩
theorem iR.below{lo:Nat}{w w':World}(h:Below w.heap.size w w'):iR lo w w':=⟨h.size,fun b _ h2=>h.block b h2⟩
theorem iR.set{lo:Nat}{w:World}{b j:Nat}{v:Value}(h:b<lo):iR lo w (w.setCell ⟨b,j,none⟩ v):=⟨by simp[World.setCell],fun b' h1 _=>fQ _ _ _ _ (by simp;omega)⟩
theorem iR.Za{lo b:Nat}(h:b<lo):∀(vs:List Value) (j:Nat) (w:World),iR lo w (w.setCells b j vs)
 | [],_,w=>⟨Nat.le_refl _,fun _ _ _=>rfl⟩
 |v::vs,j,w=>(iR.set (w:=w) (j:=j) (v:=v) h).trans (iR.Za h vs (j+1) _)
theorem gC.keep{w w':World}{a:Option Addr}{n lo:Nat}{cs:List Value}(h:gC w a n cs)(hk:iR lo w w')(hl:∀b off,a=some ⟨b,off,none⟩→lo≤b):gC w' a n cs:=fun h0=>by
 obtain⟨b,off,e,h1⟩:=h h0;refine⟨b,off,e,fun j u hu=>?_⟩;have hv:=h1 j u hu;rw[kZ (w:=w) (a:=⟨b,off+j,none⟩) (hk.2 b (hl b off e) (xo _ _ hv))];exact hv
def lO(lo:Nat)(w W:World):Prop:=∀b,lo≤b→b<w.heap.size→W.heap[b]?=w.heap[b]?
theorem iR.nz{lo uw:Nat}{w w' W:World}(h:iR lo w w')(k:lO uw w' W)(hl:uw≤lo):lO lo w W:=fun b h1 h2=>(k b (by omega) (uB h2 h.1)).trans (h.2 b h1 h2)
theorem gC.nz{w W:World}{a:Option Addr}{n lo:Nat}{cs:List Value}(h:gC w a n cs)(hk:lO lo w W)(hl:∀b off,a=some ⟨b,off,none⟩→lo≤b):gC W a n cs:=fun h0=>by
 obtain⟨b,off,e,h1⟩:=h h0;refine⟨b,off,e,fun j u hu=>?_⟩;have hv:=h1 j u hu;rw[kZ (w:=w) (a:=⟨b,off+j,none⟩) (hk b (hl b off e) (xo _ _ hv))];exact hv
def VV(w:World)(A:Array Value)(os:List cu)(n1 n2 n3 n4:Nat)(k1 k2 k3 k4:List Value)(e:Ending)(w':World):Prop:=
 ∃oa oc b1 d1 b2 d2 b3 d3 b4 d4,e=.returned (.agg (qh A (.slice oa os.length oc) (.slice b1 n1 d1) (.slice b2 n2 d2) (.slice b3 n3 d3) (.slice b4 n4 d4)))∧
  (∀W,lO w.heap.size w' W→kC W oa os∧gC W b1 n1 k1∧gC W b2 n2 k2∧gC W b3 n3 k3∧gC W b4 n4 k4)∧Below w.heap.size w w'
theorem Fa(A:Array Value)(hsz:A.size=25)(Zb:A.all (·.oneCell')=true)(os:List cu)(oa:Option Addr)(oc:Nat)(a0:A[0]?=some (.slice oa os.length oc))(hI:CY os)(n1 n2 n3 n4:Nat)(k1 k2 k3 k4:List Value)(kE:k1.length=n1*1∧k2.length=n2*1∧k3.length=n3*1∧k4.length=n4*1)(hko:(∀u∈k1,u.oneCell'=true)∧(∀u∈k2,u.oneCell'=true)∧(∀u∈k3,u.oneCell'=true)∧(∀u∈k4,u.oneCell'=true))(r1 r2 r3 r4:Option Addr)(c1 c2 c3 c4:Nat)(a1:A[20]?=some (.slice r1 n1 c1))(a2:A[21]?=some (.slice r2 n2 c2))(a3:A[22]?=some (.slice r3 n3 c3))(a4:A[23]?=some (.slice r4 n4 c4))(hl:n1≤1000∧n2≤1000∧n3≤1000∧n4≤1000)(w:World)(ho:kC w oa os)(s1:gC w r1 n1 k1)(s2:gC w r2 n2 k2)(s3:gC w r3 n3 k3)(s4:gC w r4 n4 k4):Calls prog 49 #[.agg A] w (VV w A os n1 n2 n3 n4 k1 k2 k3 k4):=by
 obtain⟨i0,hi,fV,gF,gG⟩:=info_parts lC;go_enter func49,ntmps49;go_upto_region 1 with fail
 obtain⟨Z,hZ⟩:∃Z:Array Value,Z=#[Value.slice none 0 0,I 0,I 0,I 0,B false,I 0,B false,I 0,I 0,I 0,I 0,I 0,I 0,I 0,I 0,I 0,I 0,I 0,B false,I 0,Value.slice none 0 0,Value.slice none 0 0,Value.slice none 0 0,Value.slice none 0 0,I 0]:=⟨_,rfl⟩;obtain⟨bx,tl⟩:∃b,b=w.heap.size:=⟨_,rfl⟩;obtain⟨rs,vY⟩:∃b,b=w.heap.size+1:=⟨_,rfl⟩;obtain⟨W0,LI⟩:∃W,W=(w.alloc (.cells A 100)).alloc (.cells Z 100):=⟨_,rfl⟩;have UJ:Z.size=25:=by rw[hZ];rfl
 rw[←hZ,←vY,←tl,←LI]
 have C0:CG w W0 bx rs A Z:=by
  have s1:(w.alloc (.cells A 100)).heap.size=w.heap.size+1:=by simp
  rw[LI];exact⟨((fp _ _).alloc cG _).alloc (by rw[s1];omega) _,by omega,by rw[tl];exact(gf _ _ _ (by rw[s1];omega)).trans (dP _ _),by rw[vY,←s1];exact dP _ _⟩
 have x0:=C0.cell a0;obtain⟨n,hn⟩:=dC (os.length);have Zc:n≤100:=by rw[hn];exact hI.1
 obtain⟨q,hq⟩:=dC (W0.heap.size);rw[←hn]at x0
 have tP:Hid (Calls prog 83 #[.slice (some ⟨q,0,none⟩) 1 1] (W0.alloc (.cells #[.slice oa n oc] 50)) fun e w'=>∃g cp Kd LJ,e=.returned (.slice (some ⟨g,0,none⟩) 1 cp)∧w'.cell? ⟨g,0,none⟩=some (.slice Kd n LJ)∧(∀W,lO (W0.alloc (.cells #[.slice oa n oc] 50)).heap.size w' W→kC W Kd os)∧Below (W0.alloc (.cells #[.slice oa n oc] 50)).heap.size (W0.alloc (.cells #[.slice oa n oc] 50)) w'):=by
  have jF:eW (W0.alloc (.cells #[.slice oa n oc] 50)) (some ⟨q,0,none⟩) [os]:=by
   refine⟨by simp,fun i os' hi=>?_⟩
   cases i with
   |zero=>
    simp at hi;subst hi;refine⟨q,0,oa,oc,rfl,?_,?_⟩
    ·rw[hq,←hn,cr _ _ _ _ _ _ (dP _ _)];rfl
    ·exact ho.below (C0.alloc _).below cG
   |succ i=>simp at hi
  refine(tQ [os] 1 rfl (some ⟨q,0,none⟩) 1 _ jF (BR hI)).mono ?_;rintro e w' ⟨g,cp,aV,cap,c,rfl,hC,h1,h2⟩;have ai9:=fun W (hK:lO (W0.alloc (.cells #[.slice oa n oc] 50)).heap.size w' W)=>hC.rd (i:=0) (by omega) (by show os.length≤_;have:=hI.1;omega) (fun o ho=>by obtain⟨b1,b2,b3,b4,b5,b6⟩:=hI.2 o ho;exact⟨b1,b2,b3,b4,by omega,b6⟩) (W:=W) hK
  have mj:nG (aV (some (.ops 0))) n (cap (some (.ops 0)))=.slice (UH (aV (some (.ops 0)))) n (if aV (some (.ops 0))=none then 0 else cap (some (.ops 0))):=by
   cases hb:aV (some (.ops 0)) with
   |none=>
    have:=hC.own.none_ _ hb;rw[hC.rows 0 (by omega)]at this;have:=nu (f:=J6 aV cap 0) (k:=6) (fun _ _=>rfl) (by decide) this;have:os=[]:=this;rw[hn,this];rfl
   |some b=>simp[nG,UH]
  refine⟨g,cp,UH (aV (some (.ops 0))),(if aV (some (.ops 0))=none then 0 else cap (some (.ops 0))),rfl,?_,ai9,hC.own.below⟩;rw[←mj];refine hC.own.cell (k:=none) h1 ?_;rw[hC.out,hn];rfl
 have HC0:=ag C0;obtain⟨HKK,HKO⟩:=dA kE hko;obtain⟨HS1,HS2,HS3,HS4⟩:=ia s1 s2 s3 s4;have HA:=ag (dO a0 (dO a1 (dO a2 (dO a3 a4))));obtain⟨xW,UK,HL,XF,Ke⟩:=jW hsz UJ hl Zb hn;have HLO:Hid (bx<W0.heap.size∧rs<W0.heap.size):=⟨(dh C0.box).1,(dh C0.res).1⟩;clear kE hko;clear C0 s1 s2 s3 s4 a0 a1 a2 a3 a4 hsz UJ hl Zb LI hZ tl vY ho hI hn;go_upto_region 2 with(go_at_call 83;rw[←hq];refine tP.out.mono ?_;rintro e W1 ⟨g,cp,Kd,LJ,rfl,y0,jF,hb⟩;have C1:=(HC0.out.alloc _).call hb;have xf0:=C1.frozen 0;have aj0:Hid (W0.heap.size≤W1.heap.size):=(by have:=hb.size;simp at this;show W0.heap.size≤W1.heap.size;omega);have x0':=C1.cell (j:=0) (v:=.slice oa n oc) (by rw[Ke.out];exact HA.out.1);obtain⟨Sz,CZ⟩:=dA C1 jF;clear C1 jF hb)
 obtain⟨v0,Rv⟩:=dC (Value.slice Kd n LJ);obtain⟨P0,SA⟩:∃P,Hid (P=W1.setCell ⟨bx,0,none⟩ (.slice Kd n LJ)):=⟨_,rfl⟩;have C0:=Sz.out.set 0 (.slice Kd n LJ);rw[←SA.out]at C0 ⊢;have e20:P0.cell? ⟨bx,20,none⟩=some (.slice r1 n1 c1):=C0.cell (by rw[ur (by decide)];exact HA.out.2.1);have Zd:=ag C0;clear C0 Rv y0 xf0 x0' x0;have aj1:Hid (n1≤1000):=HL.out.1;have aj2:=aj1.out;have Ap:=ag (Zd.out.Ib HS1.out);go_wp2_with (at_builtin;go_loud (refine gu rfl _ _ 28 rfl underlying28 hi fV gF gG rfl (by decide) (by decide) rfl r1 n1 c1 rfl k1 HKK.out.1 Ap.out HKO.out.1 (by omega) ?_));intro b1 d1 w1 hg rj
 have aj3:Hid (∀b' off,b1=some ⟨b',off,none⟩→b'≠bx):=fun b' off e=>by
  have dD:=(dh Zd.out.box).1;rcases rj with⟨h1,_⟩|⟨h1,_⟩
  ·rw[h1]at e;cases e
  ·rw[h1]at e;cases e;omega
 have hS:=gC.qE rj
 have pH:Hid (∀b' off,b1=some ⟨b',off,none⟩→P0.heap.size≤b'):=fun b' off e=>by
  rcases rj with⟨h1,_⟩|⟨h1,_⟩
  ·rw[h1]at e;cases e
  ·rw[h1]at e;cases e;omega
 have aj4:Hid (Below P0.heap.size P0 w1):=(fp _ _).grown hg cG (by intro k hk;cases hk);have hC:=Zd.out.grown hg;have z20:=hC.cell (j:=20) (v:=.slice r1 n1 c1) (by rw[ur (by decide)];exact HA.out.2.1);have aj5:=hC.frozen 20;have z21:=hC.cell (j:=21) (v:=.slice r2 n2 c2) (by rw[ur (by decide)];exact HA.out.2.2.1);have aj6:=ag hC;have Ze:=ag hS;clear hC hS rj hg aj2 e20;go_upto_region 3 with fail
 obtain⟨P1,Nq⟩:∃P,Hid (P=w1.setCell ⟨bx,20,none⟩ (.slice b1 n1 d1)):=⟨_,rfl⟩;have C0:=aj6.out.set 20 (.slice b1 n1 d1);have Oq:=Ze.out.set (b:=bx) (j:=20) (.slice b1 n1 d1) aj3.out;rw[←Nq.out]at C0 Oq ⊢;have e21:P1.cell? ⟨bx,21,none⟩=some (.slice r2 n2 c2):=C0.cell (by rw[ur (by decide)];rw[ur (by decide)];exact HA.out.2.2.1);have Zf:=ag C0;have ay2:=ag Oq;clear C0 Oq z20 aj5 z21;have aj7:Hid (n2≤1000):=HL.out.2.1;have aj8:=aj7.out;have Ot:=ag (Zf.out.Ib HS2.out);go_wp2_with (at_builtin;go_loud (refine gu rfl _ _ 28 rfl underlying28 hi fV gF gG rfl (by decide) (by decide) rfl r2 n2 c2 rfl k2 HKK.out.2.1 Ot.out HKO.out.2.1 (by omega) ?_));intro b2 d2 w2 hg rj
 have aj9:Hid (∀b' off,b2=some ⟨b',off,none⟩→b'≠bx):=fun b' off e=>by
  have dD:=(dh Zf.out.box).1;rcases rj with⟨h1,_⟩|⟨h1,_⟩
  ·rw[h1]at e;cases e
  ·rw[h1]at e;cases e;omega
 have hS:=gC.qE rj
 have mq:Hid (∀b' off,b2=some ⟨b',off,none⟩→P1.heap.size≤b'):=fun b' off e=>by
  rcases rj with⟨h1,_⟩|⟨h1,_⟩
  ·rw[h1]at e;cases e
  ·rw[h1]at e;cases e;omega
 have ak0:Hid (Below P1.heap.size P1 w2):=(fp _ _).grown hg cG (by intro k hk;cases hk);have hC:=Zf.out.grown hg;have z21:=hC.cell (j:=21) (v:=.slice r2 n2 c2) (by rw[ur (by decide)];rw[ur (by decide)];exact HA.out.2.2.1);have ak1:=hC.frozen 21;have z22:=hC.cell (j:=22) (v:=.slice r3 n3 c3) (by rw[ur (by decide)];rw[ur (by decide)];exact HA.out.2.2.2.1);have ak2:=ag hC;have Zg:=ag hS;clear hC hS rj hg aj8 e21;go_upto_region 4 with fail
 obtain⟨P2,En⟩:∃P,Hid (P=w2.setCell ⟨bx,21,none⟩ (.slice b2 n2 d2)):=⟨_,rfl⟩;have C0:=ak2.out.set 21 (.slice b2 n2 d2);have Oq:=Zg.out.set (b:=bx) (j:=21) (.slice b2 n2 d2) aj9.out;rw[←En.out]at C0 Oq ⊢;have e22:P2.cell? ⟨bx,22,none⟩=some (.slice r3 n3 c3):=C0.cell (by rw[ur (by decide)];rw[ur (by decide)];rw[ur (by decide)];exact HA.out.2.2.2.1);have VD:=ag C0;have ay3:=ag Oq;clear C0 Oq z21 ak1 z22;have ak3:Hid (n3≤1000):=HL.out.2.2.1;have ak4:=ak3.out;have Ou:=ag (VD.out.Ib HS3.out);go_wp2_with (at_builtin;go_loud (refine gu rfl _ _ 28 rfl underlying28 hi fV gF gG rfl (by decide) (by decide) rfl r3 n3 c3 rfl k3 HKK.out.2.2.1 Ou.out HKO.out.2.2.1 (by omega) ?_));intro b3 d3 w3 hg rj
 have ak5:Hid (∀b' off,b3=some ⟨b',off,none⟩→b'≠bx):=fun b' off e=>by
  have dD:=(dh VD.out.box).1;rcases rj with⟨h1,_⟩|⟨h1,_⟩
  ·rw[h1]at e;cases e
  ·rw[h1]at e;cases e;omega
 have hS:=gC.qE rj
 have tK:Hid (∀b' off,b3=some ⟨b',off,none⟩→P2.heap.size≤b'):=fun b' off e=>by
  rcases rj with⟨h1,_⟩|⟨h1,_⟩
  ·rw[h1]at e;cases e
  ·rw[h1]at e;cases e;omega
 have ak6:Hid (Below P2.heap.size P2 w3):=(fp _ _).grown hg cG (by intro k hk;cases hk);have hC:=VD.out.grown hg;have z22:=hC.cell (j:=22) (v:=.slice r3 n3 c3) (by rw[ur (by decide)];rw[ur (by decide)];rw[ur (by decide)];exact HA.out.2.2.2.1);have ak7:=hC.frozen 22;have z23:=hC.cell (j:=23) (v:=.slice r4 n4 c4) (by rw[ur (by decide)];rw[ur (by decide)];rw[ur (by decide)];exact HA.out.2.2.2.2);have ak8:=ag hC;have Zh:=ag hS;clear hC hS rj hg ak4 e22;go_upto_region 5 with fail
 obtain⟨P3,Eo⟩:∃P,Hid (P=w3.setCell ⟨bx,22,none⟩ (.slice b3 n3 d3)):=⟨_,rfl⟩;have C0:=ak8.out.set 22 (.slice b3 n3 d3);have Oq:=Zh.out.set (b:=bx) (j:=22) (.slice b3 n3 d3) ak5.out;rw[←Eo.out]at C0 Oq ⊢;have e23:P3.cell? ⟨bx,23,none⟩=some (.slice r4 n4 c4):=C0.cell (by rw[ur (by decide)];rw[ur (by decide)];rw[ur (by decide)];rw[ur (by decide)];exact HA.out.2.2.2.2);have HK3:=ag C0;have ay4:=ag Oq;clear C0 Oq z22 ak7 z23;have ak9:Hid (n4≤1000):=HL.out.2.2.2;have al0:=ak9.out;have SB:=ag (HK3.out.Ib HS4.out);go_wp2_with (at_builtin;go_loud (refine gu rfl _ _ 28 rfl underlying28 hi fV gF gG rfl (by decide) (by decide) rfl r4 n4 c4 rfl k4 HKK.out.2.2.2 SB.out HKO.out.2.2.2 (by omega) ?_));intro b4 d4 w4 hg rj
 have ay5:Hid (∀b' off,b4=some ⟨b',off,none⟩→b'≠bx):=fun b' off e=>by
  have dD:=(dh HK3.out.box).1;rcases rj with⟨h1,_⟩|⟨h1,_⟩
  ·rw[h1]at e;cases e
  ·rw[h1]at e;cases e;omega
 have hS:=gC.qE rj
 have HB4:Hid (∀b' off,b4=some ⟨b',off,none⟩→P3.heap.size≤b'):=fun b' off e=>by
  rcases rj with⟨h1,_⟩|⟨h1,_⟩
  ·rw[h1]at e;cases e
  ·rw[h1]at e;cases e;omega
 have al1:Hid (Below P3.heap.size P3 w4):=(fp _ _).grown hg cG (by intro k hk;cases hk);have hC:=HK3.out.grown hg;have z23:=hC.cell (j:=23) (v:=.slice r4 n4 c4) (by rw[ur (by decide)];rw[ur (by decide)];rw[ur (by decide)];rw[ur (by decide)];exact HA.out.2.2.2.2);have al2:=hC.frozen 23;have al3:=ag hC;have al4:=ag hS;clear hC hS rj hg al0 e23;go_upto_region 6 with fail
 obtain⟨P4,G6⟩:∃P,Hid (P=w4.setCell ⟨bx,23,none⟩ (.slice b4 n4 d4)):=⟨_,rfl⟩;have C0:=al3.out.set 23 (.slice b4 n4 d4);rw[←G6.out]at C0 ⊢;have Ov:=ag C0;clear C0 al2 z23;refine wp_region_lit ?_;refine wpList_load_mid rfl 100 (.tmp 1) rfl bx 0 rfl (qh A (Value.slice Kd n LJ) (.slice b1 n1 d1) (.slice b2 n2 d2) (.slice b3 n3 d3) (.slice b4 n4 d4)) (fun j v hv=>by rw[Nat.zero_add];exact Ov.out.cell hv) mC (by rw[fE];simp[qh,xW.out]) ?_
 refine cB rfl 100 (.tmp 2) (.tmp 26) rfl rs 0 (qh A (Value.slice Kd n LJ) (.slice b1 n1 d1) (.slice b2 n2 d2) (.slice b3 n3 d3) (.slice b4 n4 d4)) rfl rfl (by rw[fE];simp[qh,xW.out]) (fun j hj=>by
   rw[cr _ _ _ _ _ _ Ov.out.res];have:j<25:=by simpa[qh,xW.out]using hj
   rw[Nat.zero_add,xL (by rw[UK.out];exact this)];rfl) (fun j hj=>iM _ _ _ _ _ Ov.out.res) (mR (mR (mR (mR (mR XF.out rfl) rfl) rfl) rfl) rfl) ?_
 go_wp2;have hsz:(qh A (Value.slice Kd n LJ) (.slice b1 n1 d1) (.slice b2 n2 d2) (.slice b3 n3 d3) (.slice b4 n4 d4)).size=25:=by simp[qh,xW.out]
 have iw:=dI (cs:=qh A (Value.slice Kd n LJ) (.slice b1 n1 d1) (.slice b2 n2 d2) (.slice b3 n3 d3) (.slice b4 n4 d4)) Ov.out.res (by rw[hsz];exact UK.out);refine bodyPost_ret (lN rfl _ _ rs _ 100 (0,0) mC (by rw[fE,hsz]) rfl iw) rfl ?_;have ja:=HLO.out;have k0:iR W0.heap.size W1 P0:=by rw[SA.out];exact iR.set ja.1
 have k1:iR W0.heap.size P0 w1:=iR.below aj4.out;have k2:iR W0.heap.size w1 P1:=by rw[Nq.out];exact iR.set ja.1
 have k3:iR W0.heap.size P1 w2:=iR.below ak0.out;have k4:iR W0.heap.size w2 P2:=by rw[En.out];exact iR.set ja.1
 have k5:iR W0.heap.size P2 w3:=iR.below ak6.out;have k6:iR W0.heap.size w3 P3:=by rw[Eo.out];exact iR.set ja.1
 have k7:iR W0.heap.size P3 w4:=iR.below al1.out;have k8:iR W0.heap.size w4 P4:=by rw[G6.out];exact iR.set ja.1
 have k9:iR W0.heap.size P4 (P4.setCells rs 0 (qh A (Value.slice Kd n LJ) (.slice b1 n1 d1) (.slice b2 n2 d2) (.slice b3 n3 d3) (.slice b4 n4 d4)).toList):=iR.Za ja.2 _ _ _;have q4:=k8.trans k9;have q3:=(k6.trans k7).trans q4;have q2:=(k4.trans k5).trans q3;have q1:=(k2.trans k3).trans q2;have q0:=(k0.trans k1).trans q1;have z1:=aj0.out;rw[Ke.out];rw[Ke.out]at q0 q1 q2 q3 q4;have Ow:w.heap.size≤W0.heap.size:=HC0.out.below.size;refine⟨Kd,LJ,b1,d1,b2,d2,b3,d3,b4,d4,rfl,fun W hK=>?_,Below.setCells Ov.out.le.2.1 _ _ _ Ov.out.below⟩;have p0:=q0.nz hK Ow;have p1:=q1.nz hK Ow;have p2:=q2.nz hK Ow;have p3:=q3.nz hK Ow;have p4:=q4.nz hK Ow;refine⟨CZ.out _ (fun b h1 h2=>p0 b (by simp at h1;omega) h2),Ze.out.nz p1 (fun b off e=>?_),Zg.out.nz p2 (fun b off e=>?_),Zh.out.nz p3 (fun b off e=>?_),al4.out.nz p4 (fun b off e=>?_)⟩
 ·have:=pH.out b off e;have:=k0.1;omega
 ·have:=mq.out b off e;have:=k0.1;have:=k1.1;have:=k2.1;omega
 ·have:=tK.out b off e;have:=k0.1;have:=k1.1;have:=k2.1;have:=k3.1;have:=k4.1;omega
 ·have:=HB4.out b off e;have:=k0.1;have:=k1.1;have:=k2.1;have:=k3.1;have:=k4.1;have:=k5.1;have:=k6.1;omega
section
variable{af:Nat}{F:Fx}{w w0:World}{m m0:Mem}{S:Wd}
theorem Zi:(prog.info? 2).map (fun i=>(i.zero,i.size,i.bytes))=some (some (I 0),1,8):=by kernel_rfl
def qi(r:Ring)(n:Nat):List Value:=(List.range n).map fun(i:Nat)=>I (r.places.getD (r.at_ i) 0)
theorem Ox(R:bz af F w m S){i rb:Nat}{r:Ring}(h:S.au[i]?=some r)(fA:m.aV (.eU i)=some rb)(ok:r.Ok):Calls prog 54 #[.pointer (some ⟨rb,0,none⟩)] w fun e w'=>∃a c,e=.returned (.slice a r.count.toNat c)∧gC w' a r.count.toNat (qi r r.count.toNat)∧Below w.heap.size w w'∧∀b off,a=some ⟨b,off,none⟩→w.heap.size≤b∧b<w'.heap.size:=by
 obtain⟨i0,hi,fV,gF,gG⟩:=info_parts Zi;obtain⟨n,hn⟩:∃n:Nat,r.count=n:=⟨r.count.toNat,by have:=ok.c0;omega⟩;have Zj:n≤64:=by have:=ok.c1;have:=ok.len;omega
 have Fb:n≤r.places.length:=by have:=ok.c1;omega
 have sN:∀W:World,(Instr.makeSlice 57 (I 0) (I n)).run prog W=.ok (.slice (some ⟨W.heap.size,0,none⟩) 0 n) (W.alloc (.cells (madeCells (I 0).cells (n*i0.size)) 2)):=fun W=>et (P:=prog) 57 2 i0 _ underlying57 hi fV .i64 .i64 0 n (Nat.zero_le _) (by rw[gG];omega) (by omega) W
 rw[gF]at sN;rw[hn];simp only[oU];obtain⟨Hw,gr,pa,pc,hh,q0,q1,q2,q3⟩:=R.eU h;rw[fA]at gr;cases gr;rw[hn]at q2;have lt1:=R.lt fA;obtain⟨np,Io⟩:=dC (r.places.length);rw[←Io]at q0 Fb;have aw5:np≤64:=by rw[Io];exact ok.len
 obtain⟨HR,HH,uv,lP,HP,Ep⟩:=mr R h fA ok q3 Io;have jf:Hid ((w.alloc (.cells (madeCells #[I 0] n) 2)).ownsRow w.heap.size 2 1 (.slice (some ⟨w.heap.size,0,none⟩) 0 n) 0 (qi r 0)∧Below w.heap.size w (w.alloc (.cells (madeCells #[I 0] n) 2))):=by refine⟨⟨rfl,.inr ⟨w.heap.size,n,_,rfl,Nat.le_refl _,dP _ _,Nat.zero_le _,by unfold maxLen;omega,by simp[size_madeCells],by simp[qi]⟩⟩,(fp _ _).alloc cG _⟩
 have HQ:Hid (∀W,Below w.heap.size w W→W.cell? ⟨rb,0,none⟩=some (.slice pa np pc)∧W.cell? ⟨rb,2,none⟩=some (I n)):=fun W hb=>⟨cw hb cG _ _ q0,cw hb cG _ _ q2⟩
 clear R h fA ok hh q1 q3 hn Io q0;go_enter func54,ntmps54;go_wp2;clear sN q2;go_loopw [3,14] (fun out i wr=>∃(j g cp:Nat),out=.slice (some ⟨g,0,none⟩) j cp∧i=.int .i64 j∧j≤n∧Hid (wr.ownsRow w.heap.size 2 1 (.slice (some ⟨g,0,none⟩) j cp) j (qi r j)∧Below w.heap.size w wr)) (fun _ i _=>n-(intOf i).toNat)
 case atStart=>exact⟨0,w.heap.size,n,rfl,rfl,by omega,jf⟩
 case round=>
  clear jf;obtain⟨j,g,cp,rfl,rfl,hj,HW⟩:=hrel;by_cases dD:j<n
  ·obtain⟨at_,ks⟩:∃a,a=r.at_ j:=⟨_,rfl⟩;have VW:at_<np:=by rw[ks,Ep.out];unfold Ring.at_;have hpos:(0:Int)<r.places.length:=(by have:=Ep.out;omega);have h1:=Int.emod_nonneg (r.first+(j:Int)) (b:=(r.places.length:Int)) (by omega);have h2:=Int.emod_lt_of_pos (r.first+(j:Int)) hpos;omega
   obtain⟨y,hy⟩:∃y,r.places[at_]?=some y:=⟨_,fv (by rw[←Ep.out];exact VW)⟩;obtain⟨pb,CJ,rfl,hpr,Nh⟩:=HP.out (by intro e;rw[e]at hy;simp at hy);have HB:=HW.out.2;have UL:=HR.out.below HB;obtain⟨d0,d2⟩:=HQ.out wr HB;have dy:wr.cell? ⟨pb,at_,none⟩=some (I y):=cw HB cG _ _ (Nh at_ y hy);have UA:Hid (∀W,W.heap=wr.heap→Calls prog 87 #[.pointer (some ⟨rb,0,none⟩),I j] W fun e w'=>e=.returned (I at_)∧∃n,w'=W.drewN n):=fun W hW=>by rw[ks];exact xR (UL.heap (fun _ b _=>by rw[hW])) HH.out uv.out lP.out j (by omega) (by have:=Ep.out;omega)
   have qq:w.heap.size≤wr.heap.size:=HB.size;have nv:=ag HW.out.1;have HY:=ag (dO hy ks);have Np:=ag (fun(ops:Array Oper) (o:Oper) (ac:Act) (K:Act→World→Prop) (Q:Exit→Act→World→Prop) (E:Prop) (W3:World)=>jN (P:=prog) (ops:=ops) (o:=o) (a:=ac) (K:=K) (Q:=Q) (E:=E) (s:=.tmp 17) (x:=.tmp 27) (t:=57) (ht:=underlying57) (hi:=hi) (hz:=fV) (hsize:=gF) (hby:=gG) (hzs:=rfl) (hsz:=Nat.one_pos) (hbb:=vJ) (w2:=wr) (W3:=W3) (us:=#[I y]) (hus:=rfl) (h1:=qa y) (v:=.slice (some ⟨g,0,none⟩) j cp) (n:=j) (xs:=qi r j) (hown:=nv.out) (hn:=by omega) (hbase:=qq))
   have hgw:w.heap.size≤g:=by
    rcases nv.out.2 with⟨h1,_⟩|⟨g',_,_,h1,h2,_⟩
    ·cases h1
    ·simp only[Value.slice.injEq,oZ,Addr.mk.injEq]at h1;rw[h1.1.1];exact h2
   have al5:pb<w.heap.size:=HR.out.lt CJ
   have HKP:Hid (∀W3 w3:World,W3.heap=(wr.alloc (.cells #[I y] 2)).heap→W3.grownBy w3 (some g)→(w3.cell? ⟨rb,0,none⟩=some (.slice (some ⟨pb,0,none⟩) np pc)∧w3.cell? ⟨pb,at_,none⟩=some (I y))∧(W3.os=wr.os→W3.tape=wr.tape→W3.output=wr.output→Below w.heap.size w w3)):=fun W3 w3 hW hg=>by
    have hs:W3.heap.size=wr.heap.size+1:=(by rw[hW];simp);have key:∀b,b<w.heap.size→w3.heap[b]?=wr.heap[b]?:=fun b hb=>by rw[hg.block b (by omega) (by simp;omega),hW];exact gf _ _ _ (by omega)
    refine⟨⟨?_,?_⟩,fun o1 o2 o3=>⟨hg.os.trans (o1.trans HB.os),hg.tape.trans (o2.trans HB.tape),hg.output.trans (o3.trans HB.output),by have:=hg.size;have:=HB.size;omega,fun b hb=>(key b hb).trans (HB.block b hb)⟩⟩
    ·rw[kZ (w:=wr) (key rb lt1)];exact d0
    ·rw[kZ (w:=wr) (key pb al5)];exact dy
   clear Nh CJ hpr ks hy UL HB;go_upto_region 5 with fail
   go_region_held3 (fun W=>W.cell? ⟨rb,0,none⟩=some (.slice (some ⟨pb,0,none⟩) np pc)∧W.cell? ⟨pb,at_,none⟩=some (I y)) (first|exact⟨d0,dy⟩|exact⟨‹_›,‹_›⟩|go_keep)
    (first
     |(go_at_call 87;refine(UA.out _ ?_).mono ?_;rfl;rintro e w2 ⟨rfl,kk,rfl⟩)
     |(refine Np.out _ _ _ _ _ _ _ rfl rfl rfl rfl rfl ?_;intro g2 On w3 er kX gp;have hkp:=HKP.out _ _ (by rfl) kX;obtain⟨⟨d0,dy⟩,Hl⟩:=hkp))
   have HN:Hid (w3.ownsRow w.heap.size 2 1 (.slice (some ⟨g2,0,none⟩) (j+1) On) (j+1) (qi r (j+1))∧Below w.heap.size w w3):=(by refine⟨?_,Hl rfl rfl rfl⟩;have e:qi r (j+1)=qi r j++[I y]:=(by unfold qi;rw[List.range_succ,List.map_append,List.map_cons,List.map_nil,←HY.out.2,yk,HY.out.1];rfl);rw[e];exact er);clear HW nv er kX gp Hl Np HKP UA d0 dy d2;go_wp2;go_roundw
   case rel=>exact⟨j+1,g2,On,by simp,by go_num,by omega,HN⟩
   case measure=>simp[intOf];omega
  ·obtain rfl:j=n:=by omega
   go_wp2;go_ret;exact⟨_,_,rfl,gC.tO HW.out.1,HW.out.2,lJ HW.out.1⟩
end
inductive SK|box|gs|cache|nA
 deriving DecidableEq
def tyS:SK→Option (Nat×Nat)| .box=>some (41,12)| .gs=>some (100,25)| .cache=>some (28,1)| .nA=>some (59,6)
def Oy(S:Wd)(g h v5 c v7 v9 v11:Value):List Value:=[I S.dV,I S.eT,I S.av,g,h,v5,c,v7,I S.ar.cO,v9,I S.drawn,v11]
def VX(lo:Nat)(wr:World)(aV:SK→Option Nat)(P:World→Prop):Prop:=∀W:World,(∀b,lo≤b→b<wr.heap.size→(∀k,aV k≠some b)→W.heap[b]?=wr.heap[b]?)→P W
structure StO(w wr:World)(S:Wd)(bx:Nat)(v5 v7 v9 v11:Value)(i q k:Nat)(g c h:Value)(cg cc ch:List Value)(P:World→Prop)(aV:SK→Option Nat)(cap:SK→Nat)(ct:SK→List Value):Prop where
 own:cN w.heap.size w wr aV tyS cap ct
 box:aV .box=some bx
 SC:cap .box=1
 Zk:ct .box=Oy S g h v5 c v7 v9 v11
 hg:g=nG (aV .gs) i (cap .gs)
 Zl:ct .gs=cg
 hc:c=nG (aV .cache) q (cap .cache)
 mP:ct .cache=cc
 hh:h=nG (aV .nA) k (cap .nA)
 bO:ct .nA=ch
 off:VX w.heap.size wr aV P
def mw(w wr:World)(S:Wd)(bx:Nat)(v5 v7 v9 v11:Value)(i q k:Nat)(g c h:Value)(cg cc ch:List Value)(P:World→Prop):Prop:=∃aV cap ct,StO w wr S bx v5 v7 v9 v11 i q k g c h cg cc ch P aV cap ct
section
variable{w wr w':World}{S:Wd}{bx i q k:Nat}{v5 v7 v9 v11 g c h:Value}{cg cc ch:List Value}{P:World→Prop}
theorem mw.more(H:mw w wr S bx v5 v7 v9 v11 i q k g c h cg cc ch P)(hb:Below wr.heap.size wr w'){Q:World→Prop}(hQ:∀W,lO wr.heap.size w' W→P W→Q W):mw w w' S bx v5 v7 v9 v11 i q k g c h cg cc ch Q:=by
 obtain⟨aV,cap,ct,H⟩:=H;refine⟨aV,cap,ct,H.own.eC hb,H.box,H.SC,H.Zk,H.hg,H.Zl,H.hc,H.mP,H.hh,H.bO,fun W hW=>hQ W (fun b h1 h2=>hW b (jm H.own.tL h1) h2 fun k e=>by have:=H.own.lt e;omega) (H.off W fun b h1 h2 h3=>?_)⟩;rw[hW b h1 (uB h2 hb.size) h3];exact hb.block b h2
theorem mw.eC(H:mw w wr S bx v5 v7 v9 v11 i q k g c h cg cc ch P)(hb:Below wr.heap.size wr w'):mw w w' S bx v5 v7 v9 v11 i q k g c h cg cc ch P:=H.more hb fun _ _ h=>h
theorem mw.imp(H:mw w wr S bx v5 v7 v9 v11 i q k g c h cg cc ch P){Q:World→Prop}(hQ:∀W,P W→Q W):mw w wr S bx v5 v7 v9 v11 i q k g c h cg cc ch Q:=H.more (fp _ _) fun W _ h=>hQ W h
theorem mw.drew(H:mw w wr S bx v5 v7 v9 v11 i q k g c h cg cc ch P):mw w wr.drew S bx v5 v7 v9 v11 i q k g c h cg cc ch P:=H.eC (fp _ _).drew
theorem mw.alloc(H:mw w wr S bx v5 v7 v9 v11 i q k g c h cg cc ch P)(o:Obj):mw w (wr.alloc o) S bx v5 v7 v9 v11 i q k g c h cg cc ch P:=H.eC ((fp _ _).alloc cG o)
theorem mw.lo(H:mw w wr S bx v5 v7 v9 v11 i q k g c h cg cc ch P):Below w.heap.size w wr∧w.heap.size≤wr.heap.size:=by
 obtain⟨aV,cap,ct,H⟩:=H;exact⟨H.own.below,H.own.tL⟩
theorem mw.cell(H:mw w wr S bx v5 v7 v9 v11 i q k g c h cg cc ch P)(j:Nat)(v:Value)(hv:(Oy S g h v5 c v7 v9 v11)[j]?=some v):wr.cell? ⟨bx,j,none⟩=some v:=by
 obtain⟨aV,cap,ct,H⟩:=H;exact H.own.cell H.box (by rw[H.Zk];exact hv)
theorem mw.frozen(H:mw w wr S bx v5 v7 v9 v11 i q k g c h cg cc ch P)(j:Nat):wr.frozen? ⟨bx,j,none⟩=false:=by
 obtain⟨aV,cap,ct,H⟩:=H;exact H.own.frozen H.box j
theorem mw.VY(H:mw w wr S bx v5 v7 v9 v11 i q k g c h cg cc ch P):bx<wr.heap.size:=by
 obtain⟨aV,cap,ct,H⟩:=H;exact H.own.lt H.box
theorem mw.Zm(H:mw w wr S bx v5 v7 v9 v11 i q k g c h cg cc ch P)(hl:cg.length=i*25):wr.ownsRow w.heap.size 100 25 g i cg:=by
 obtain⟨aV,cap,ct,H⟩:=H;have:=H.own.owns (k:=.gs) (p:=(100,25)) rfl (by decide) (n:=i) (by rw[H.Zl];exact hl);rw[←H.hg,H.Zl]at this;exact this
theorem mw.Zn(H:mw w wr S bx v5 v7 v9 v11 i q k g c h cg cc ch P)(hl:cc.length=q):wr.ownsRow w.heap.size 28 1 c q cc:=by
 obtain⟨aV,cap,ct,H⟩:=H;have:=H.own.owns (k:=.cache) (p:=(28,1)) rfl (by decide) (n:=q) (by rw[H.mP,hl,Nat.mul_one]);rw[←H.hc,H.mP]at this;exact this
theorem mw.Zo(H:mw w wr S bx v5 v7 v9 v11 i q k g c h cg cc ch P)(hl:ch.length=k*6):wr.ownsRow w.heap.size 59 6 h k ch:=by
 obtain⟨aV,cap,ct,H⟩:=H;have:=H.own.owns (k:=.nA) (p:=(59,6)) rfl (by decide) (n:=k) (by rw[H.bO];exact hl);rw[←H.hh,H.bO]at this;exact this
theorem VX.row{lo:Nat}{aV:SK→Option Nat}{r:SK}{g:Nat}(h:VX lo wr aV P)(hg:wr.grownBy w' (aV r))(gp:aV r=some g∨wr.heap.size≤g):VX lo w' (up aV r (some g)) P:=fun W hW=>h W fun b h1 h2 h3=>by
 have yp:b≠g:=fun e=>by
  subst e;rcases gp with h4|h4
  ·exact h3 r h4
  ·omega
 rw[hW b h1 (uB h2 hg.size) (fun k e=>by
  by_cases hk:k=r
  ·subst hk;rw[bq]at e;cases e;exact yp rfl
  ·rw[aD _ _ hk]at e;exact h3 k e)]
 exact hg.block b h2 (fun e=>h3 r e.symm)
theorem VX.set{lo:Nat}{aV:SK→Option Nat}{r:SK}{b j:Nat}{v:Value}(h:VX lo wr aV P)(hb:aV r=some b):VX lo (wr.setCell ⟨b,j,none⟩ v) aV P:=fun W hW=>h W fun b' h1 h2 h3=>by
 rw[hW b' h1 (by simpa[World.setCell]using h2) h3];exact fQ _ _ _ _ (fun e=>h3 r (by rw[e]at*;exact hb))
theorem mw.Oz(H:mw w wr S bx v5 v7 v9 v11 i q k g c h cg cc ch P){lg cp n:Nat}{xs:List Value}(hg:wr.grownBy w' g.ownBlock)(hown:w'.ownsRow w.heap.size 100 25 (.slice (some ⟨lg,0,none⟩) n cp) n xs)(gp:g.ownBlock=some lg∨wr.heap.size≤lg):mw w (w'.setCell ⟨bx,3,none⟩ (.slice (some ⟨lg,0,none⟩) n cp)) S bx v5 v7 v9 v11 n q k (.slice (some ⟨lg,0,none⟩) n cp) c h xs cc ch P:=by
 obtain⟨aV,cap,ct,H⟩:=H;have ho:g.ownBlock=aV .gs:=by rw[H.hg];exact gV _ _ _
 rw[ho]at hg gp;have O:=H.own.row (r:=.gs) (p:=(100,25)) (fun q h=>by cases h;rfl) hg hown gp;have hb:up aV .gs (some lg) .box=some bx:=by rw[aD _ _ (by decide)];exact H.box
 refine⟨_,_,_,O.set (r:=.box) (j:=3) (v:=.slice (some ⟨lg,0,none⟩) n cp) hb,hb,by rw[aD _ _ (by decide)];exact H.SC,?_,?_,?_,?_,?_,?_,?_,(H.off.row hg gp).set hb⟩
 ·rw[bq,aD _ _ (by decide),H.Zk];rfl
 ·rw[bq,bq];rfl
 ·rw[aD _ _ (by decide),bq]
 ·rw[aD _ _ (by decide),aD _ _ (by decide)];exact H.hc
 ·rw[aD _ _ (by decide),aD _ _ (by decide)];exact H.mP
 ·rw[aD _ _ (by decide),aD _ _ (by decide)];exact H.hh
 ·rw[aD _ _ (by decide),aD _ _ (by decide)];exact H.bO
theorem mw.OA(H:mw w wr S bx v5 v7 v9 v11 i q k g c h cg cc ch P){lg cp n:Nat}{xs:List Value}(hg:wr.grownBy w' c.ownBlock)(hown:w'.ownsRow w.heap.size 28 1 (.slice (some ⟨lg,0,none⟩) n cp) n xs)(gp:c.ownBlock=some lg∨wr.heap.size≤lg):mw w (w'.setCell ⟨bx,6,none⟩ (.slice (some ⟨lg,0,none⟩) n cp)) S bx v5 v7 v9 v11 i n k g (.slice (some ⟨lg,0,none⟩) n cp) h cg xs ch P:=by
 obtain⟨aV,cap,ct,H⟩:=H;have ho:c.ownBlock=aV .cache:=by rw[H.hc];exact gV _ _ _
 rw[ho]at hg gp;have O:=H.own.row (r:=.cache) (p:=(28,1)) (fun q h=>by cases h;rfl) hg hown gp;have hb:up aV .cache (some lg) .box=some bx:=by rw[aD _ _ (by decide)];exact H.box
 refine⟨_,_,_,O.set (r:=.box) (j:=6) (v:=.slice (some ⟨lg,0,none⟩) n cp) hb,hb,by rw[aD _ _ (by decide)];exact H.SC,?_,?_,?_,?_,?_,?_,?_,(H.off.row hg gp).set hb⟩
 ·rw[bq,aD _ _ (by decide),H.Zk];rfl
 ·rw[aD _ _ (by decide),aD _ _ (by decide)];exact H.hg
 ·rw[aD _ _ (by decide),aD _ _ (by decide)];exact H.Zl
 ·rw[bq,bq];rfl
 ·rw[aD _ _ (by decide),bq]
 ·rw[aD _ _ (by decide),aD _ _ (by decide)];exact H.hh
 ·rw[aD _ _ (by decide),aD _ _ (by decide)];exact H.bO
theorem mw.OB(H:mw w wr S bx v5 v7 v9 v11 i q k g c h cg cc ch P){lg cp n:Nat}{xs:List Value}(hg:wr.grownBy w' h.ownBlock)(hown:w'.ownsRow w.heap.size 59 6 (.slice (some ⟨lg,0,none⟩) n cp) n xs)(gp:h.ownBlock=some lg∨wr.heap.size≤lg):mw w (w'.setCell ⟨bx,4,none⟩ (.slice (some ⟨lg,0,none⟩) n cp)) S bx v5 v7 v9 v11 i q n g c (.slice (some ⟨lg,0,none⟩) n cp) cg cc xs P:=by
 obtain⟨aV,cap,ct,H⟩:=H;have ho:h.ownBlock=aV .nA:=by rw[H.hh];exact gV _ _ _
 rw[ho]at hg gp;have O:=H.own.row (r:=.nA) (p:=(59,6)) (fun q h=>by cases h;rfl) hg hown gp;have hb:up aV .nA (some lg) .box=some bx:=by rw[aD _ _ (by decide)];exact H.box
 refine⟨_,_,_,O.set (r:=.box) (j:=4) (v:=.slice (some ⟨lg,0,none⟩) n cp) hb,hb,by rw[aD _ _ (by decide)];exact H.SC,?_,?_,?_,?_,?_,?_,?_,(H.off.row hg gp).set hb⟩
 ·rw[bq,aD _ _ (by decide),H.Zk];rfl
 ·rw[aD _ _ (by decide),aD _ _ (by decide)];exact H.hg
 ·rw[aD _ _ (by decide),aD _ _ (by decide)];exact H.Zl
 ·rw[aD _ _ (by decide),aD _ _ (by decide)];exact H.hc
 ·rw[aD _ _ (by decide),aD _ _ (by decide)];exact H.mP
 ·rw[bq,bq];rfl
 ·rw[aD _ _ (by decide),bq]
theorem mw.al6(H:mw w wr S bx v5 v7 v9 v11 i q k g c h cg cc ch P)(hg:wr.grownBy w' g.ownBlock):w'.heap[bx]?=wr.heap[bx]?:=by
 obtain⟨aV,cap,ct,H⟩:=H;refine hg.block bx (H.own.lt H.box) fun e=>?_
 rw[H.hg,gV]at e;exact aX (H.own.inj _ _ _ H.box e.symm) (by decide)
theorem mw.al7(H:mw w wr S bx v5 v7 v9 v11 i q k g c h cg cc ch P)(hg:wr.grownBy w' c.ownBlock):w'.heap[bx]?=wr.heap[bx]?:=by
 obtain⟨aV,cap,ct,H⟩:=H;refine hg.block bx (H.own.lt H.box) fun e=>?_
 rw[H.hc,gV]at e;exact aX (H.own.inj _ _ _ H.box e.symm) (by decide)
theorem mw.al8(H:mw w wr S bx v5 v7 v9 v11 i q k g c h cg cc ch P)(hg:wr.grownBy w' h.ownBlock):w'.heap[bx]?=wr.heap[bx]?:=by
 obtain⟨aV,cap,ct,H⟩:=H;refine hg.block bx (H.own.lt H.box) fun e=>?_
 rw[H.hh,gV]at e;exact aX (H.own.inj _ _ _ H.box e.symm) (by decide)
theorem mw.Zp(H:mw w wr S bx v5 v7 v9 v11 i q k g c h cg cc ch P){b:Nat}(hb:h.ownBlock=some b):w.heap.size≤b:=by
 obtain⟨aV,cap,ct,H⟩:=H;rw[H.hh,gV]at hb;exact(H.own.lies _ _ hb).1
theorem yO{n:Nat}:∀(As:List (List Value)),(∀A∈As,A.length=n)→As.flatten.length=As.length*n
 | [],_=>by simp
 |A::As,h=>by rw[List.flatten_cons,py,yO As (fun B hB=>h B (nO _ hB)),h A (rn),sV,Nat.add_mul,Nat.one_mul,Nat.add_comm]
end
def yP(x:bI)(st:Int)(tk:Bool)(v0 v1 v2 v3 v4:Value):List Value:=
 [v0,I x.at_,I x.ae,I st,B tk,I x.call,B x.bk,I x.aN,I x.bY,I x.br,I x.t,I x.bJ,I x.point,I x.bF,I x.fire]++ru x.res++[v1,v2,v3,v4,I x.k]
def Zq(x:bI)(st:Int)(tk:Bool)(A:List Value)(W:World):Prop:=
 ∃oa oc b1 d1 b2 d2 b3 d3 b4 d4,A=yP x st tk (.slice oa x.ops.length oc) (.slice b1 x.aH.length d1) (.slice b2 x.aq.length d2) (.slice b3 x.bA.length d3) (.slice b4 x.wakes.length d4)∧
  kC W oa x.ops∧gC W b1 x.aH.length (x.aH.map I)∧gC W b2 x.aq.length (x.aq.map I)∧gC W b3 x.bA.length (x.bA.map I)∧gC W b4 x.wakes.length (x.wakes.map I)
def HRd(S:Wd)(ls:List (List Nat))(k:Nat)(r:Ring)(D:List Value)(W:World):Prop:=
 ∃ba bc cl ra rc sa sc,D=[I r.places.length,.slice ba r.count.toNat bc,B cl,I (owner S.aq k),.slice ra (ls.getD (2*k) []).length rc,.slice sa (ls.getD (2*k+1) []).length sc]∧S.aO[k]?=some cl∧
  gC W ba r.count.toNat (qi r r.count.toNat)∧gC W ra (ls.getD (2*k) []).length (uU (ls.getD (2*k) []))∧gC W sa (ls.getD (2*k+1) []).length (uU (ls.getD (2*k+1) []))
structure yQ(S:Wd)(ls:List (List Nat))(sa ma da xa:Option Addr)(As:List (List Value))(Vs:List Value)(Ds:List (List Value))(W:World):Prop where
 Rw:gC W sa S.ah.length (bT mg 0 S.ah)
 mid:gC W ma S.ar.aK.length (S.ar.aK.map I)
 draws:gC W da S.draws.length (S.draws.map U)
 done:gC W xa S.done.length (bT ib 0 S.done)
 gs:∀(j:Nat) x A,S.gs[j]?=some x→As[j]?=some A→Zq x (bU S.ax j) (token S.ax j) A W
 aC:∀(j:Nat) x v,S.ar.aC[j]?=some x→Vs[j]?=some v→∃a cp,v=.slice a x.length cp∧gC W a x.length (x.map I)
 nA:∀(k:Nat) r D,S.au[k]?=some r→Ds[k]?=some D→HRd S ls k r D W
section
variable{S:Wd}{ls:List (List Nat)}{sa ma da xa:Option Addr}{As:List (List Value)}{Vs:List Value}{Ds:List (List Value)}{W:World}
theorem yR{α:Type}{l:List α}{a b:α}{j:Nat}(h:(l++[a])[j]?=some b):l[j]?=some b∨j=l.length∧b=a:=by
 rw[List.getElem?_append]at h;split at h
 ·exact .inl h
 ·have hj:j-l.length=0:=by
   rcases Nat.eq_zero_or_pos (j-l.length)with h1|h1
   ·exact h1
   ·rw[rq (by simp;omega)]at h;cases h
  rw[hj]at h;simp at h;exact .inr ⟨by omega,h.symm⟩
theorem yQ.Oz(H:yQ S ls sa ma da xa As Vs Ds W){x:bI}{A:List Value}(hx:S.gs[As.length]?=some x)(hA:Zq x (bU S.ax As.length) (token S.ax As.length) A W):yQ S ls sa ma da xa (As++[A]) Vs Ds W:=
 ⟨H.Rw,H.mid,H.draws,H.done,fun j y B hy hB=>by
  rcases yR hB with h|⟨rfl,rfl⟩
  ·exact H.gs j y B hy h
  ·rw[hx]at hy;cases hy;exact hA,H.aC,H.nA⟩
theorem yQ.OA(H:yQ S ls sa ma da xa As Vs Ds W){x:List Int}{a:Option Addr}{cp:Nat}(hx:S.ar.aC[Vs.length]?=some x)(hA:gC W a x.length (x.map I)):yQ S ls sa ma da xa As (Vs++[.slice a x.length cp]) Ds W:=
 ⟨H.Rw,H.mid,H.draws,H.done,H.gs,fun j y B hy hB=>by
  rcases yR hB with h|⟨rfl,rfl⟩
  ·exact H.aC j y B hy h
  ·rw[hx]at hy;cases hy;exact⟨a,cp,rfl,hA⟩,H.nA⟩
theorem yQ.OB(H:yQ S ls sa ma da xa As Vs Ds W){r:Ring}{D:List Value}(hx:S.au[Ds.length]?=some r)(hA:HRd S ls Ds.length r D W):yQ S ls sa ma da xa As Vs (Ds++[D]) W:=
 ⟨H.Rw,H.mid,H.draws,H.done,H.gs,H.aC,fun j y B hy hB=>by
  rcases yR hB with h|⟨rfl,rfl⟩
  ·exact H.nA j y B hy h
  ·rw[hx]at hy;cases hy;exact hA⟩
end
structure yS(S:Wd)(ls:List (List Nat))(w w':World)(sa ma da xa ga ca ha:Option Addr)(As:List (List Value))(Vs:List Value)(Ds:List (List Value)):Prop where
 la:As.length=S.gs.length
 a25:∀A∈As,A.length=25
 lv:Vs.length=S.gs.length
 ld:Ds.length=S.au.length
 d6:∀D∈Ds,D.length=6
 below:Below w.heap.size w w'
 gs:∀W,lO w.heap.size w' W→gC W ga S.gs.length As.flatten
 aC:∀W,lO w.heap.size w' W→gC W ca S.gs.length Vs
 nA:∀W,lO w.heap.size w' W→gC W ha S.au.length Ds.flatten
 rd:∀W,lO w.heap.size w' W→yQ S ls sa ma da xa As Vs Ds W
structure tc(S:Wd)(ls:List (List Nat)):Prop where
 Rw:S.ah.length≤64
 mid:S.ar.aK.length≤1000
 draws:S.draws.length≤1000
 done:S.done.length≤900000
 gs:S.gs.length≤100
 gor:∀(j:Nat) x,S.gs[j]?=some x→CY x.ops∧x.aH.length≤1000∧x.aq.length≤1000∧x.bA.length≤1000∧x.wakes.length≤1000
 aC:S.ar.aC.length=S.gs.length
 cache:∀(j:Nat) x,S.ar.aC[j]?=some x→x.length≤1000
 au:S.au.length≤8
 eU:∀r∈S.au,r.Ok
 aO:S.aO.length=S.au.length
 q:V.xQ S.aw ls
 bM:ls.length=16
 line:∀l∈ls,l.length≤1000
 aS:S.aw.aS.length≤1000
theorem xb{W W3 w':World}{r:Option Nat}(h:W3.grownBy w' r)(hh:W3.heap=W.heap)(h1:W3.os=W.os)(h2:W3.tape=W.tape)(h3:W3.output=W.output):W.grownBy w' r:=
 ⟨h.os.trans h1,h.tape.trans h2,h.output.trans h3,by rw[←hh];exact h.size,fun k hk hn=>by rw[←hh];exact h.block k (by rw[hh];exact hk) hn⟩
theorem Tryz.SD:(prog.info? 28).map (fun i=>(i.zero,i.size,i.bytes))=some (some (.slice none 0 0),1,24):=by kernel_rfl
theorem Tryz.Kf:(prog.info? 59).map (fun i=>(i.zero,i.size,i.bytes))=some (some (.agg #[I 0,.slice none 0 0,B false,I 0,.slice none 0 0,.slice none 0 0]),6,96):=by kernel_rfl
theorem Zr:prog.underlying 38=some (.slice 28):=by kernel_rfl
theorem UM:prog.underlying 36=some (.slice 59):=by kernel_rfl
theorem OC(args:Array Value)(w:World):(callFunc 52 args).run prog w=.ok (.enter 52 args) w:=by
 have hN : (Tryz.f52.name == "runtime.NumGoroutine") = false := by kernel_rfl
 have hN : ¬ Tryz.f52.name = "runtime.NumGoroutine" := by simpa using hN
 have hB:Tryz.f52.body.isNone=false:=by kernel_rfl
 have hB:¬Tryz.f52.body=none:=fun h=>by rw[h]at hB;cases hB
 simp[callFunc,func52,go_sem,hN,hB]
section
variable{af:Nat}{F:Fx}{w w0:World}{m m0:Mem}{S:Wd}
theorem bz.Zs(R:bz af F w m S){g:Nat}{x:bI}(hx:S.gs[g]?=some x)(hI:CY x.ops):∃oa oc,m.cU (.ops g) x.ops.length=.slice oa x.ops.length oc∧kC w oa x.ops:=by
 by_cases h0:x.ops=[]
 ·cases hb:m.aV (.ops g) with
  |none=>exact⟨none,0,by rw[Mem.j6 hb,h0];rfl,by rw[h0];simp,fun j o ho=>by rw[h0]at ho;cases ho⟩
  |some b=>exact⟨_,_,Mem.de hb _,by rw[h0];simp,fun j o ho=>by rw[h0]at ho;cases ho⟩
 ·obtain⟨o0,ho0⟩:∃o,x.ops[0]?=some o:=⟨_,fv (pd h0)⟩;obtain⟨ob,jz,hh,_⟩:=R.ops hx ho0;refine⟨_,_,hh,by have:=hI.1;omega,fun j o ho=>?_⟩;obtain⟨ob',Zt,_,hc⟩:=R.ops hx ho;rw[jz]at Zt;cases Zt;obtain⟨a,cc,hca,mP⟩:=R.cases hx ho;obtain⟨i1,i2,i3,i4,i5,i6⟩:=hI.2 o (lf ho);refine⟨ob,0,a,cc,rfl,?_⟩;simp only[Nat.zero_add];refine⟨hc 0 _ rfl,hc 1 _ rfl,hc 2 _ rfl,hc 3 _ rfl,hc 4 _ (by rw[←hca];rfl),hc 5 _ rfl,⟨by omega,fun k c hk=>?_⟩,i1,i2,i3,i4⟩;obtain⟨cb,rfl,_,fP⟩:=mP (fun e=>by rw[e]at hk;cases hk);have c2:=fun t ht v hv=>fP (k*3+t) v (by have:=fq (f:=fT) (k:=3) (fun _ _=>rfl) o.cases 0 k t c hk ht;rw[this];exact hv)
  have hi:=i6 c (lf hk);simp only[Nat.zero_add]at c2;refine⟨cb,0,rfl,?_⟩;simp only[Nat.zero_add];exact⟨c2 0 (by omega) _ rfl,c2 1 (by omega) _ rfl,c2 2 (by omega) _ rfl,hi.1,hi.2⟩
theorem Fc(m:Mem)(g:Nat)(x:bI):∀u∈gk m g x,u.oneCell'=true:=by
 have hh:∀r n,(m.cU r n).oneCell'=true:=fun r n=>by unfold Mem.cU;cases m.aV r<;>rfl
 intro u hu;simp only[gk,ru,sY,List.nil_append,iL,List.not_mem_nil,or_false]at hu;rcases hu with rfl|rfl|rfl|rfl|rfl|rfl|rfl|rfl|rfl|rfl|rfl|rfl|rfl|rfl|rfl|rfl|rfl|rfl|rfl|rfl|rfl|rfl|rfl|rfl|rfl
 all_goals first|rfl|exact hh _ _
theorem LM(R:bz af F w m S){j:Nat}{x:bI}(hx:S.gs[j]?=some x)(hI:CY x.ops∧x.aH.length≤1000∧x.aq.length≤1000∧x.bA.length≤1000∧x.wakes.length≤1000):∃oa oc r1 c1 r2 c2 r3 c3 r4 c4,gk m j x=yP x x.bU x.token (.slice oa x.ops.length oc) (.slice r1 x.aH.length c1) (.slice r2 x.aq.length c2) (.slice r3 x.bA.length c3) (.slice r4 x.wakes.length c4)∧∀W,Below w.heap.size w W→Calls prog 49 #[.agg (yP x x.bU x.token (.slice oa x.ops.length oc) (.slice r1 x.aH.length c1) (.slice r2 x.aq.length c2) (.slice r3 x.bA.length c3) (.slice r4 x.wakes.length c4)).toArray] W fun e w'=>∃oa oc r1 c1 r2 c2 r3 c3 r4 c4,e=.returned (.agg (yP x x.bU x.token (.slice oa x.ops.length oc) (.slice r1 x.aH.length c1) (.slice r2 x.aq.length c2) (.slice r3 x.bA.length c3) (.slice r4 x.wakes.length c4)).toArray)∧(∀st tk W2,lO W.heap.size w' W2→Zq x st tk (yP x st tk (.slice oa x.ops.length oc) (.slice r1 x.aH.length c1) (.slice r2 x.aq.length c2) (.slice r3 x.bA.length c3) (.slice r4 x.wakes.length c4)) W2)∧Below W.heap.size W w':=by
 obtain⟨oa,oc,ho,jF⟩:=R.Zs hx hI.1;have e1:aj m S (.aH j)=x.aH.map I:=by simp only[aj,hx]
 have e2:aj m S (.aq j)=x.aq.map I:=by simp only[aj,hx]
 have e3:aj m S (.bA j)=x.bA.map I:=by simp only[aj,hx]
 have e4:aj m S (.wakes j)=x.wakes.map I:=by simp only[aj,hx]
 obtain⟨r1,c1,h1,s1⟩:=R.Ib (r:=.aH j) (n:=x.aH.length) (by rw[e1];exact qF);obtain⟨r2,c2,h2,s2⟩:=R.Ib (r:=.aq j) (n:=x.aq.length) (by rw[e2];exact qF);obtain⟨r3,c3,h3,s3⟩:=R.Ib (r:=.bA j) (n:=x.bA.length) (by rw[e3];exact qF);obtain⟨r4,c4,h4,s4⟩:=R.Ib (r:=.wakes j) (n:=x.wakes.length) (by rw[e4];exact qF);rw[e1]at s1;rw[e2]at s2;rw[e3]at s3;rw[e4]at s4;have BS:gk m j x=yP x x.bU x.token (.slice oa x.ops.length oc) (.slice r1 x.aH.length c1) (.slice r2 x.aq.length c2) (.slice r3 x.bA.length c3) (.slice r4 x.wakes.length c4):=by unfold gk yP;rw[ho,h1,h2,h3,h4]
 refine⟨oa,oc,r1,c1,r2,c2,r3,c3,r4,c4,BS,fun W hb=>?_⟩;have VZ:(yP x x.bU x.token (.slice oa x.ops.length oc) (.slice r1 x.aH.length c1) (.slice r2 x.aq.length c2) (.slice r3 x.bA.length c3) (.slice r4 x.wakes.length c4)).toArray.all (·.oneCell')=true:=by rw[←BS,List.all_toArray];exact List.all_eq_true.2 (Fc m j x)
 refine(Fa _ rfl VZ x.ops oa oc rfl hI.1 x.aH.length x.aq.length x.bA.length x.wakes.length (x.aH.map I) (x.aq.map I) (x.bA.map I) (x.wakes.map I) (by simp) ⟨ints_oneCell _ _,ints_oneCell _ _,ints_oneCell _ _,ints_oneCell _ _⟩ r1 r2 r3 r4 c1 c2 c3 c4 rfl rfl rfl rfl ⟨hI.2.1,hI.2.2.1,hI.2.2.2.1,hI.2.2.2.2⟩ W (jF.below hb cG) (s1.below hb cG) (s2.below hb cG) (s3.below hb cG) (s4.below hb cG)).mono ?_;rintro e w' ⟨Kd,LJ,b1,d1,b2,d2,b3,d3,b4,d4,rfl,hA,hB⟩;exact⟨Kd,LJ,b1,d1,b2,d2,b3,d3,b4,d4,rfl,fun st tk W2 Rx=>⟨_,_,_,_,_,_,_,_,_,_,rfl,hA W2 Rx⟩,hB⟩
end
theorem tR{P:Program}{ops:Array Oper}{o:Oper}{a:Act}{w:World}{K:Act→World→Prop}{Q:Exit→Act→World→Prop}{E:Prop}(nX:o.guard=none)(s x:Operand)(t:TypeId)(ho:o.op=.call {callee:=.builtin .append,args:=#[s,x],argTypes:=#[t,t]}){e:TypeId}{i:TypeInfo}{z:Value}{size bytes:Nat}(ht:P.underlying t=some (.slice e))(hi:P.info? e=some i)(hz:i.zero=some z)(hsize:i.size=size)(hby:i.bytes=bytes)(hzs:z.cells.size=size)(hsz:0<size)(hbb:bytes≤200)(hs:a.eval s=.slice none 0 0)(ao:Option Addr)(n c:Nat)(hx:a.eval x=.slice ao n c)(cs:List Value)(hl:cs.length=n*size)(hc:gC w ao n cs)(h1:∀u∈cs,u.oneCell'=true)(hn:n<1000001)(h:∀hb cap w',Below w.heap.size w w'→gC w' hb n cs→(∀b off,hb=some ⟨b,off,none⟩→w.heap.size≤b∧b<w'.heap.size)→K (a.put o.dst (.slice hb n cap)) w'):if Region.wanted o (yielded ops a.tmps)=true then Oper.wp P o a w K Q else E:=by
 have hw:Region.wanted o (yielded ops a.tmps)=true:=by simp[Region.wanted,nX]
 rw[aF hw];refine tN s x t ho ht hi hz hsize hby hzs hsz hbb hs ao n c hx cs hl hc h1 hn fun hb cap w' h2 h3=>?_
 exact h hb cap w' ((fp _ _).grown h2 cG (by intro k hk;cases hk)) (gC.qE h3) (pG h3)
abbrev td:=Option Addr×Nat×List Value
abbrev qG:Array Value:=#[I 0,I 0,I 0,.slice none 0 0,.slice none 0 0,.slice none 0 0,.slice none 0 0,.slice none 0 0,I 0,.slice none 0 0,I 0,.slice none 0 0]
structure ix(w W:World)(L:List td)(bo:Option Nat):Prop where
 below:Below w.heap.size w W
 rd:∀e∈L,gC W e.1 e.2.1 e.2.2
 fr:∀e∈L,∀b off,e.1=some ⟨b,off,none⟩→w.heap.size≤b∧b<W.heap.size∧bo≠some b
 box:∀b,bo=some b→w.heap.size≤b∧W.heap[b]?=some (.cells qG 41 (0,0))
section
variable{w W W':World}{L:List td}{bo:Option Nat}
theorem ix.call(H:ix w W L bo)(hb:Below W.heap.size W W'):ix w W' L bo:=
 ⟨H.below.trans (hb.mono H.below.size),fun e he=>(H.rd e he).below hb cG,fun e he b off h=>⟨(H.fr e he b off h).1,uB (H.fr e he b off h).2.1 hb.size,(H.fr e he b off h).2.2⟩,fun b h=>⟨(H.box b h).1,(hb.block b (dh (H.box b h).2).1).trans (H.box b h).2⟩⟩
theorem ix.ext(H:ix w W L bo)(hb:Below W.heap.size W W'){a:Option Addr}{n:Nat}{cs:List Value}(h:gC W' a n cs)(hf:∀b off,a=some ⟨b,off,none⟩→W.heap.size≤b∧b<W'.heap.size):ix w W' ((a,n,cs)::L) bo:=by
 have H':=H.call hb;refine⟨H'.below,fun e he=>?_,fun e he b off h=>?_,H'.box⟩
 ·rcases iL.1 he with rfl|he
  ·exact h
  ·exact H'.rd e he
 ·rcases iL.1 he with rfl|he
  ·have:=hf b off h;refine⟨jm H.below.size this.1,this.2,fun e=>?_⟩;have:=(dh (H.box b e).2).1;omega
  ·exact H'.fr e he b off h
theorem ix.drew(H:ix w W L bo):ix w W.drew L bo:=H.call (fp _ _).drew
theorem ix.new(H:ix w W L none):ix w (W.alloc (.cells qG 41)) L (some W.heap.size):=by
 have H':=H.call ((fp W.heap.size W).alloc cG (.cells qG 41));refine⟨H'.below,H'.rd,fun e he b off h=>⟨(H'.fr e he b off h).1,(H'.fr e he b off h).2.1,fun e2=>?_⟩,fun b h=>?_⟩
 ·have:=(H.fr e he b off h).2.1
  cases e2;omega
 ·cases h;exact⟨H.below.size,dP _ _⟩
theorem ix.Nr{bx:Nat}(H:ix w W L (some bx)):w.heap.size≤bx:=(H.box bx rfl).1
theorem ix.cells{bx:Nat}(H:ix w W L (some bx)):W.cell? ⟨bx,0,none⟩=some (I 0)∧W.cell? ⟨bx,1,none⟩=some (I 0)∧W.cell? ⟨bx,2,none⟩=some (I 0)∧W.cell? ⟨bx,3,none⟩=some (.slice none 0 0)∧W.cell? ⟨bx,4,none⟩=some (.slice none 0 0)∧W.cell? ⟨bx,5,none⟩=some (.slice none 0 0)∧W.cell? ⟨bx,6,none⟩=some (.slice none 0 0)∧W.cell? ⟨bx,7,none⟩=some (.slice none 0 0)∧W.cell? ⟨bx,8,none⟩=some (I 0)∧W.cell? ⟨bx,9,none⟩=some (.slice none 0 0)∧W.cell? ⟨bx,10,none⟩=some (I 0)∧W.cell? ⟨bx,11,none⟩=some (.slice none 0 0)∧∀j,W.frozen? ⟨bx,j,none⟩=false:=by
 have hb:=(H.box bx rfl).2;simp only[cr _ _ _ _ _ _ hb];exact⟨rfl,rfl,rfl,rfl,rfl,rfl,rfl,rfl,rfl,rfl,rfl,rfl,fun j=>iM _ _ _ _ _ hb⟩
end
theorem SE:(prog.info? 46).map (fun i=>(i.zero,i.size,i.bytes))=some (some (.agg #[I 0,I 0,I 0,I 0,I 0,I 0,I 0,I 0,I 0,I 0,I 0,B false,I 0]),13,104):=by kernel_rfl
theorem Fe:∀(l:List gn) (i:Nat),∀u∈bT mg i l,u.oneCell'=true
 | [],_,_,h=>by simp[bT]at h
 |s::l,i,u,h=>by
  simp only[bT,mg,sY,List.nil_append,iL]at h;rcases h with rfl|rfl|rfl|rfl|rfl|rfl|rfl|h
  all_goals first|rfl|exact Fe l (i+1) u h
theorem BT:∀(l:List Ex) (i:Nat),∀u∈bT ib i l,u.oneCell'=true
 | [],_,_,h=>by simp[bT]at h
 |s::l,i,u,h=>by
  simp only[bT,ib,ru,sY,List.nil_append,iL]at h;rcases h with rfl|rfl|rfl|rfl|rfl|rfl|rfl|rfl|rfl|rfl|rfl|rfl|rfl|h
  all_goals first|rfl|exact BT l (i+1) u h
theorem iq{b b':Nat}(h:b≠b'):∀(vs:List Value) (o:Nat) (w:World),(w.setCells b' o vs).heap[b]?=w.heap[b]?
 | [],_,_=>rfl
 |v::vs,o,w=>(iq h vs (o+1) _).trans (fQ _ _ _ _ (by simpa using h))
theorem j9{b':Nat}:∀(vs:List Value) (o:Nat) (w:World),(w.setCells b' o vs).heap.size=w.heap.size
 | [],_,_=>rfl
 |v::vs,o,w=>(j9 vs (o+1) _).trans (by simp[World.setCell])
section
variable{af:Nat}{F:Fx}{w w0:World}{m m0:Mem}{S:Wd}
structure rk(w wx:World)(S:Wd)(bx:Nat)(sa:Option Addr)(sc:Nat)(ma:Option Addr)(mc:Nat)(da:Option Addr)(dc:Nat)(xa:Option Addr)(xc:Nat):Prop where
 below:Below w.heap.size w wx
 rd:∀W:World,(∀b,w.heap.size≤b→b<wx.heap.size→b≠bx→W.heap[b]?=wx.heap[b]?)→gC W sa S.ah.length (bT mg 0 S.ah)∧gC W ma S.ar.aK.length (S.ar.aK.map I)∧gC W da S.draws.length (S.draws.map U)∧gC W xa S.done.length (bT ib 0 S.done)
 le:w.heap.size≤bx
 box:wx.heap[bx]?=some (.cells #[I S.dV,I S.eT,I S.av,.slice none 0 0,.slice none 0 0,.slice sa S.ah.length sc,.slice none 0 0,.slice ma S.ar.aK.length mc,I S.ar.cO,.slice da S.draws.length dc,I S.drawn,.slice xa S.done.length xc] 41 (0,0))
theorem rk.start{w wx:World}{S:Wd}{ls:List (List Nat)}{bx:Nat}{sa:Option Addr}{sc:Nat}{ma:Option Addr}{mc:Nat}{da:Option Addr}{dc:Nat}{xa:Option Addr}{xc:Nat}(H:rk w wx S bx sa sc ma mc da dc xa xc):mw w wx S bx (.slice sa S.ah.length sc) (.slice ma S.ar.aK.length mc) (.slice da S.draws.length dc) (.slice xa S.done.length xc) 0 0 0 (.slice none 0 0) (.slice none 0 0) (.slice none 0 0) ([]:List (List Value)).flatten [] ([]:List (List Value)).flatten (yQ S ls sa ma da xa [] [] []):=by
 have O:=(((cN.nil (κ:=SK) w.heap.size w cG tyS).eC H.below).put (r:=.box) (b:=bx) (cp:=1) (xs:=Oy S (.slice none 0 0) (.slice none 0 0) (.slice sa S.ah.length sc) (.slice none 0 0) (.slice ma S.ar.aK.length mc) (.slice da S.draws.length dc) (.slice xa S.done.length xc)) H.le (fun k b' h=>by cases h)
  ⟨_,_,H.box,by simp[Oy],rfl,fun p hp=>by cases hp;exact⟨rfl,rfl,by unfold maxLen;omega⟩⟩)
 refine⟨_,_,_,O,bq _ _ _,bq _ _ _,bq _ _ _,rfl,rfl,rfl,rfl,rfl,rfl,fun W hW=>?_⟩
 obtain⟨h1,h2,h3,h4⟩:=H.rd W fun b q1 q2 q3=>hW b q1 q2 fun k e=>by
  by_cases hk:k=.box
  ·subst hk;rw[bq]at e;cases e;exact q3 rfl
  ·rw[aD _ _ hk]at e;cases e
 exact⟨h1,h2,h3,h4,fun j x A _ hA=>(by cases hA),fun j x A _ hA=>(by cases hA),fun j x A _ hA=>(by cases hA)⟩
theorem jC{w wx W:World}{bx:Nat}{a:Option Addr}{n:Nat}{cs:List Value}(h:gC wx a n cs)(hf:∀b off,a=some ⟨b,off,none⟩→w.heap.size≤b∧b<wx.heap.size∧b≠bx)(hW:∀b,w.heap.size≤b→b<wx.heap.size→b≠bx→W.heap[b]?=wx.heap[b]?):gC W a n cs:=fun h0=>by
 obtain⟨b,off,e,h1⟩:=h h0;obtain⟨f1,f2,f3⟩:=hf b off e;refine⟨b,off,e,fun j u hu=>?_⟩;rw[kZ (w:=wx) (a:=⟨b,off+j,none⟩) (hW b f1 f2 f3)];exact h1 j u hu
theorem rk.al9{w W:World}{L:List td}(X:ix w W L none){sa ma da xa:Option Addr}{sc mc dc xc:Nat}(h1:(sa,S.ah.length,bT mg 0 S.ah)∈L)(h2:(ma,S.ar.aK.length,S.ar.aK.map I)∈L)(h3:(da,S.draws.length,S.draws.map U)∈L)(h4:(xa,S.done.length,bT ib 0 S.done)∈L):rk w (W.alloc (.cells #[I S.dV,I S.eT,I S.av,.slice none 0 0,.slice none 0 0,.slice sa S.ah.length sc,.slice none 0 0,.slice ma S.ar.aK.length mc,I S.ar.cO,.slice da S.draws.length dc,I S.drawn,.slice xa S.done.length xc] 41)) S W.heap.size sa sc ma mc da dc xa xc:=by
 have hB:=(fp W.heap.size W).alloc cG (.cells #[I S.dV,I S.eT,I S.av,.slice none 0 0,.slice none 0 0,.slice sa S.ah.length sc,.slice none 0 0,.slice ma S.ar.aK.length mc,I S.ar.cO,.slice da S.draws.length dc,I S.drawn,.slice xa S.done.length xc] 41);have X':=X.call hB;have hf:∀e∈L,∀b off,e.1=some ⟨b,off,none⟩→w.heap.size≤b∧b<(W.alloc (.cells #[I S.dV,I S.eT,I S.av,.slice none 0 0,.slice none 0 0,.slice sa S.ah.length sc,.slice none 0 0,.slice ma S.ar.aK.length mc,I S.ar.cO,.slice da S.draws.length dc,I S.drawn,.slice xa S.done.length xc] 41)).heap.size∧b≠W.heap.size:=fun e he b off h=>⟨(X'.fr e he b off h).1,(X'.fr e he b off h).2.1,by have:=(X.fr e he b off h).2.1;omega⟩
 exact⟨X'.below,fun W2 hW=>⟨jC (X'.rd _ h1) (hf _ h1) hW,jC (X'.rd _ h2) (hf _ h2) hW,jC (X'.rd _ h3) (hf _ h3) hW,jC (X'.rd _ h4) (hf _ h4) hW⟩,X.below.size,dP _ _⟩
theorem rk.r7{w W:World}{L:List td}{bx:Nat}(X:ix w W L (some bx)){sa ma da xa:Option Addr}{sc mc dc xc:Nat}(h1:(sa,S.ah.length,bT mg 0 S.ah)∈L)(h2:(ma,S.ar.aK.length,S.ar.aK.map I)∈L)(h3:(da,S.draws.length,S.draws.map U)∈L)(h4:(xa,S.done.length,bT ib 0 S.done)∈L):rk w (W.setCells bx 0 [I S.dV,I S.eT,I S.av,.slice none 0 0,.slice none 0 0,.slice sa S.ah.length sc,.slice none 0 0,.slice ma S.ar.aK.length mc,I S.ar.cO,.slice da S.draws.length dc,I S.drawn,.slice xa S.done.length xc]) S bx sa sc ma mc da dc xa xc:=by
 obtain⟨gq,mz⟩:=X.box bx rfl;have hf:∀e∈L,∀b off,e.1=some ⟨b,off,none⟩→w.heap.size≤b∧b<W.heap.size∧b≠bx:=fun e he b off h=>⟨(X.fr e he b off h).1,(X.fr e he b off h).2.1,fun e2=>(X.fr e he b off h).2.2 (by rw[e2])⟩
 refine⟨Below.setCells gq _ _ _ X.below,fun W2 hW=>?_,gq,dI (cs:=#[I S.dV,I S.eT,I S.av,.slice none 0 0,.slice none 0 0,.slice sa S.ah.length sc,.slice none 0 0,.slice ma S.ar.aK.length mc,I S.ar.cO,.slice da S.draws.length dc,I S.drawn,.slice xa S.done.length xc]) mz rfl⟩;have Rx:∀b,w.heap.size≤b→b<W.heap.size→b≠bx→W2.heap[b]?=W.heap[b]?:=fun b h1 h2 h3=>by rw[hW b h1 (by rw[j9];exact h2) h3,iq h3]
 exact⟨jC (X.rd _ h1) (hf _ h1) Rx,jC (X.rd _ h2) (hf _ h2) Rx,jC (X.rd _ h3) (hf _ h3) Rx,jC (X.rd _ h4) (hf _ h4) Rx⟩
theorem rk.am0{w W:World}{L:List td}{bx:Nat}(X:ix w W L (some bx)){sa ma da xa:Option Addr}{sc mc dc xc:Nat}(h1:(sa,S.ah.length,bT mg 0 S.ah)∈L)(h2:(ma,S.ar.aK.length,S.ar.aK.map I)∈L)(h3:(da,S.draws.length,S.draws.map U)∈L)(h4:(xa,S.done.length,bT ib 0 S.done)∈L):rk w ((((((((((((W.setCell ⟨bx,0,none⟩ (I S.dV)).setCell ⟨bx,1,none⟩ (I S.eT)).setCell ⟨bx,2,none⟩ (I S.av)).setCell ⟨bx,3,none⟩ (.slice none 0 0)).setCell ⟨bx,4,none⟩ (.slice none 0 0)).setCell ⟨bx,5,none⟩ (.slice sa S.ah.length sc)).setCell ⟨bx,6,none⟩ (.slice none 0 0)).setCell ⟨bx,7,none⟩ (.slice ma S.ar.aK.length mc)).setCell ⟨bx,8,none⟩ (I S.ar.cO)).setCell ⟨bx,9,none⟩ (.slice da S.draws.length dc)).setCell ⟨bx,10,none⟩ (I S.drawn)).setCell ⟨bx,11,none⟩ (.slice xa S.done.length xc)) S bx sa sc ma mc da dc xa xc:=rk.r7 X h1 h2 h3 h4
end
end Go.Proofs.YtadifmnmfnihdaaGreat
