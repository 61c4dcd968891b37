import Derived.Test.YtadifmnmfnihdaaGreatA17
set_option linter.all false
set_option maxRecDepth 100000
set_option maxHeartbeats 40000000
namespace Go.Proofs.YtadifmnmfnihdaaGreat
open Go.RowKit Mach Go.Proofs.Tryz
def po(n:Nat):Code→Option Code
 | .region m ops b=>if m=n then some (.region m ops b)else none
 | .seq a b=>match po n a with|some c=>some c|none=>po n b
 | .block _ a=>po n a
 | .loop a=>po n a
 | .cond _ a b=>match po n a with|some c=>some c|none=>po n b
 |_=>none
theorem PV{af:Nat}{F:Fx}{wA wr:World}{m:Mem}{S:Wd}{ls:List (List Nat)}{aJ:Code}(ic:Tryz.f26.body.bind (po 13)=some aJ)(hR:bz af F wA m S)(hs:tc S ls)(hb:Below wA.heap.size wA wr∧wA.heap.size≤wr.heap.size){k j bx rb rg gc cc hc sc mc dc xc:Nat}{ga ca ha sa ma da xa:Option Addr}{r:Ring}(hr:S.au[k]?=some r)(fA:m.aV (.eU k)=some rb)(Mu:rg=S.au.length)(dD:k<rg)(hL:∃As Vs Ds,As.length=j∧(∀A∈As,A.length=25)∧Vs.length=j∧Ds.length=k∧(∀D∈Ds,D.length=6)∧mw wA wr S bx (.slice sa S.ah.length sc) (.slice ma S.Eg.aK.length mc) (.slice da S.draws.length dc) (.slice xa S.done.length xc) j j k (.slice ga j gc) (.slice ca j cc) (.slice ha k hc) As.flatten Vs Ds.flatten (yQ S ls sa ma da xa As Vs Ds))(x1 x2 x4 x5 x8 x9 RI bl sD sE zR zS Gn Gp Gq MK ML MM MN MO QB QC XW XX XY XZ X7 Ya Yb Yc x34 x35 x36 x37 x38 x39 x40 x41 x42 x43 x44 x45 x46 x47 x48 x49 x50 x51 x52 x53 x54 x55 x56 x57 x58 x59 x60 x61 x62 x63 x64 x65 x66 x67 x68 x69 x70 x71 x72 x73 x74 x75 x76 x77 x78 x79 x80 x81 x82 x83 x84 x85 x86 x87 x88 x89 x90 x91 x92 x93 x94 x95 x96 x97 x98 x99 Tk WN Tl Tm Tn Tp Tq Tr Ts Tt Tu Tv Tw Tx Ty Tz TA TC ar8 ar9 as0 as1 as2 as3 as4 as5 as6 as7 as8 as9 at1 at2 at3 at4 at5 at6 at7 at8 at9 au0 aa8 aa9:Value){Q:Exit→Act→World→Prop}(hQ:∀(PW ab0 ab1 ab2 ab3 ab4 ab5 ab6 ab7 ab8 ab9 ac0 ac1 ac2 ac3 ac4 ac5 ac6 ac7 ac8 ac9 ad0 ad1 ad2 ad3 ad4 ad5 ad6 ad7 ad8 ad9 ae0 ae1 ae2 ae3 ae4 ae5 ae6 ae7:Value) (w:World) (gg cap:Nat),Hid (∃As Vs Ds,As.length=j∧(∀A∈As,A.length=25)∧Vs.length=j∧Ds.length=k+1∧(∀D∈Ds,D.length=6)∧mw wA w S bx (.slice sa S.ah.length sc) (.slice ma S.Eg.aK.length mc) (.slice da S.draws.length dc) (.slice xa S.done.length xc) j j (k+1) (.slice ga j gc) (.slice ca j cc) (.slice (some ⟨gg,0,none⟩) (k+1) cap) As.flatten Vs Ds.flatten (yQ S ls sa ma da xa As Vs Ds))→Q .normal {tmps:=#[.pointer (some ⟨F.al,0,none⟩),x1,x2,.pointer (some ⟨bx,0,none⟩),x4,x5,.int .i64 k,.pointer (some ⟨rb,0,none⟩),x8,x9,RI,bl,sD,sE,zR,zS,Gn,Gp,Gq,MK,ML,MM,MN,MO,QB,QC,XW,XX,XY,XZ,X7,Ya,Yb,Yc,x34,x35,x36,x37,x38,x39,x40,x41,x42,x43,x44,x45,x46,x47,x48,x49,x50,x51,x52,x53,x54,x55,x56,x57,x58,x59,x60,x61,x62,x63,x64,x65,x66,x67,x68,x69,x70,x71,x72,x73,x74,x75,x76,x77,x78,x79,x80,x81,x82,x83,x84,x85,x86,x87,x88,x89,x90,x91,x92,x93,x94,x95,x96,x97,x98,x99,Tk,PW,ab0,ab1,ab2,ab3,ab4,ab5,ab6,ab7,ab8,ab9,ac0,ac1,ac2,ac3,ac4,ac5,ac6,ac7,ac8,ac9,ad0,ad1,ad2,ad3,ad4,ad5,ad6,ad7,ad8,ad9,ae0,ae1,ae2,ae3,ae4,ae5,ae6,ae7,aa8,aa9],defers:=[]} w):Code.wp prog aJ Q {tmps:=#[.pointer (some ⟨F.al,0,none⟩),x1,x2,.pointer (some ⟨bx,0,none⟩),x4,x5,.int .i64 k,.pointer (some ⟨rb,0,none⟩),x8,x9,RI,bl,sD,sE,zR,zS,Gn,Gp,Gq,MK,ML,MM,MN,MO,QB,QC,XW,XX,XY,XZ,X7,Ya,Yb,Yc,x34,x35,x36,x37,x38,x39,x40,x41,x42,x43,x44,x45,x46,x47,x48,x49,x50,x51,x52,x53,x54,x55,x56,x57,x58,x59,x60,x61,x62,x63,x64,x65,x66,x67,x68,x69,x70,x71,x72,x73,x74,x75,x76,x77,x78,x79,x80,x81,x82,x83,x84,x85,x86,x87,x88,x89,x90,x91,x92,x93,x94,x95,x96,x97,x98,x99,Tk,WN,Tl,Tm,Tn,Tp,Tq,Tr,Ts,Tt,Tu,Tv,Tw,Tx,Ty,Tz,TA,TC,ar8,ar9,as0,as1,as2,as3,as4,as5,as6,as7,as8,as9,at1,at2,at3,at4,at5,at6,at7,at8,at9,au0,aa8,aa9],defers:=[]} wr:=by
 obtain rfl:Code.region 13 _ _=aJ:=mx ic;obtain⟨HR,vD,xH,WO,HL,HQ⟩:=mr hR hs hb Mu hL hQ;have WQ:rg≤8:=by rw[Mu];exact hs.au
 have RW:=hR.below hb.1;clear ic hR hs hb Mu hL hQ;have ae8:r.Ok:=vD.out.eU r (lf hr);obtain⟨cl,gm⟩:∃b,S.aO[k]?=some b:=⟨_,fv (by rw[vD.out.aO,←WO.out];exact dD)⟩;have hkc:=fm gm;obtain⟨cb,fP,_,_⟩:=RW.ka gm;obtain⟨nc,JU⟩:∃n,n=S.aO.length:=⟨_,rfl⟩;have RF:=ag JU;have aB1:nc≤8:=by rw[JU,vD.out.aO,←WO.out];exact WQ
 rw[←JU]at hkc;obtain⟨lr,IF⟩:∃l,ls[2*k]?=some l:=⟨_,fv (by rw[vD.out.bM];omega)⟩;obtain⟨lq,hlq⟩:∃l,ls[2*k+1]?=some l:=⟨_,fv (by rw[vD.out.bM];omega)⟩;have Ci:ls.getD (2*k) []=lr:=by rw[yk,IF];rfl
 have Sm:ls.getD (2*k+1) []=lq:=by rw[yk,hlq];rfl
 obtain⟨np,Fb⟩:∃n,n=r.places.length:=⟨_,rfl⟩;obtain⟨XS,Hs⟩:∃n,n=r.count.toNat:=⟨_,rfl⟩;obtain⟨nR,hnR⟩:∃n,n=lr.length:=⟨_,rfl⟩;obtain⟨nQ,hnQ⟩:∃n,n=lq.length:=⟨_,rfl⟩;obtain⟨ow,how⟩:∃n,n=owner S.aq k:=⟨_,rfl⟩;have HSX:Hid (∀W,Below wA.heap.size wA W→W.cell? ⟨F.al,6,none⟩=some (.slice (some ⟨cb,0,none⟩) nc (m.cap .aO))∧W.cell? ⟨cb,k,none⟩=some (B cl)∧W.cell? ⟨F.al,7,none⟩=some (.pointer (some ⟨F.dY,0,none⟩))∧W.cell? ⟨F.al,8,none⟩=some (.pointer (some ⟨F.aw,0,none⟩))):=fun W hb=>by have R':=HR.out.below hb;obtain⟨cb',ae9,c6,ccl⟩:=R'.ka gm;rw[fP]at ae9;cases ae9;rw[←RF.out]at c6;exact⟨c6,ccl,R'.pC,R'.dR⟩
 have UL:=ag RW;have Jf:=ag (dO hr (dO fA (dO gm (dO IF hlq))));have Mv:=ag (dO Fb (dO Hs (dO hnR (dO hnQ (dO how (dO Ci Sm))))));have lP:=ag ae8;have jF:=vD.out.line lr (lf IF);have hqd:=vD.out.line lq (lf hlq);have HLS:Hid (S.aw.bM.length≤1000):=by rw[vD.out.q.len,vD.out.bM];exact ag oX
 have H53:=ag (fun(W:World) (L:List td) (bo:Option Nat) (H:ix wr W L bo)=>show Calls prog 53 #[.pointer (some ⟨rb,0,none⟩)] W fun e w'=>e=.returned (I np)∧W=w' from by obtain⟨Hw,gr,pa,pc,_,q0,_⟩:=(UL.out.below H.below).eU Jf.out.1;rw[Jf.out.2.1]at gr;cases gr;rw[←Mv.out.1]at q0;exact tu rb pa np pc W q0);have H54:=ag (fun(W:World) (L:List td) (bo:Option Nat) (H:ix wr W L bo)=>show Calls prog 54 #[.pointer (some ⟨rb,0,none⟩)] W fun e w'=>∃a c,e=.returned (.slice a XS c)∧ix wr w' ((a,XS,qi r XS)::L) bo from by refine(Ox (UL.out.below H.below) Jf.out.1 Jf.out.2.1 lP).mono ?_;rw[←Mv.out.2.1];rintro e w' ⟨a,c,rfl,h1,h2,h3⟩;exact⟨a,c,rfl,H.ext h2 h1 h3⟩);have H55:=ag (fun(W:World) (L:List td) (bo:Option Nat) (H:ix wr W L bo)=>show Calls prog 55 #[.pointer (some ⟨F.dY,0,none⟩),I k] W fun e w'=>e=.returned (I ow)∧W=w' from by have:=Ih (UL.out.below H.below) (k:Int);rw[←Mv.out.2.2.2.2.1]at this;exact this);have hwr:IntKind.i64.wrap ((k:Int)+1)=(k:Int)+1:=jX _ oX;obtain⟨z1,gF⟩:∃z:Int,z=((2*k:Nat):Int):=⟨_,rfl⟩;obtain⟨z2,gG⟩:∃z:Int,z=((2*k+1:Nat):Int):=⟨_,rfl⟩;have HZ:=ag (dO gF gG);have H57:Hid (∀W:World,Calls prog 57 #[I (k+1)] W fun e w'=>e=.returned (I z1)∧W=w'):=fun W=>by have:=Ie (k+1) oX W;rw[show((k+1:Nat):Int)=(k:Int)+1 by omega,show 2*((k:Int)+1)-2=z1 by rw[HZ.out.1];omega]at this;exact this
 have H58:Hid (∀W:World,Calls prog 58 #[I (k+1)] W fun e w'=>e=.returned (I z2)∧W=w'):=fun W=>by have:=Ig (k+1) oX W;rw[show((k+1:Nat):Int)=(k:Int)+1 by omega,show 2*((k:Int)+1)-1=z2 by rw[HZ.out.2];omega]at this;exact this
 have H56:=ag (fun(W:World) (e1:td) (H:ix wr W [e1] none)=>show Calls prog 56 #[.pointer (some ⟨F.aw,0,none⟩),I z1] W fun e w'=>∃a c,e=.returned (.slice a nR c)∧ix wr w' ((a,nR,uU lr)::[e1]) none from by rw[HZ.out.1];refine(yN (UL.out.below H.below) vD.out.q (2*k) lr Jf.out.2.2.2.1 jF HLS vD.out.aS).mono ?_;rw[←Mv.out.2.2.1];rintro e w' ⟨a,c,rfl,h1,h2,h3⟩;exact⟨a,c,rfl,H.ext h2 h1 h3⟩);have WR:=ag (fun(W:World) (e1 e2:td) (H:ix wr W [e1,e2] none)=>show Calls prog 56 #[.pointer (some ⟨F.aw,0,none⟩),I z2] W fun e w'=>∃a c,e=.returned (.slice a nQ c)∧ix wr w' ((a,nQ,uU lq)::[e1,e2]) none from by rw[HZ.out.2];refine(yN (UL.out.below H.below) vD.out.q (2*k+1) lq Jf.out.2.2.2.2 hqd HLS vD.out.aS).mono ?_;rw[←Mv.out.2.2.2.1];rintro e w' ⟨a,c,rfl,h1,h2,h3⟩;exact⟨a,c,rfl,H.ext h2 h1 h3⟩);obtain⟨As,Vs,Ds,l1,l2,l3,l4,l5,hl⟩:=HL.out;obtain⟨i5,yi,yz0,yz1,yz2⟩:=info_parts Tryz.Kf;have t4:=hl.cell 4 _ rfl;have lbx:=hl.VY;have T4:Hid (∀W L,ix wr W L none→W.cell? ⟨bx,4,none⟩=some (.slice ha k hc)):=fun W L H=>cw H.below cG _ _ t4
 have PX:Hid (∀W L,ix wr W L none→W.cell? ⟨F.al,6,none⟩=some (.slice (some ⟨cb,0,none⟩) nc (m.cap .aO))∧W.cell? ⟨cb,k,none⟩=some (B cl)∧W.cell? ⟨F.al,7,none⟩=some (.pointer (some ⟨F.dY,0,none⟩))∧W.cell? ⟨F.al,8,none⟩=some (.pointer (some ⟨F.aw,0,none⟩))):=fun W L H=>HSX W (xH.out.1.trans (H.below.mono xH.out.2))
 have Mw:=ag (dO l1 (dO l2 (dO l3 (dO l4 (dO l5 hl)))));have X0:ix wr wr [] none:=⟨fp _ _,fun e he=>by(cases he),fun e he=>by(cases he),fun b h=>by(cases h)⟩;have X:=ag X0.drew;have hS:=PX.out _ _ X.out;have t4:=T4.out _ _ X.out;clear gF gG RW hr fA gm IF hlq Fb Hs hnR hnQ how Ci Sm ae8 l1 l2 l3 l4 l5 hl X0 HL JU fP RF jF hqd;have hle:wA.heap.size≤bx:=by obtain⟨aV,cap,ct,H⟩:=Mw.out.2.2.2.2.2;exact(H.own.lies _ _ H.box).1
 have HLE:=ag hle;clear hle;refine wp_region_noPanic ?_;refine wp_region_held_drew (S:=(fun W=>W.cell? ⟨F.al,6,none⟩=some (.slice (some ⟨cb,0,none⟩) nc (m.cap .aO))∧W.cell? ⟨cb,k,none⟩=some (B cl)∧W.cell? ⟨F.al,7,none⟩=some (.pointer (some ⟨F.dY,0,none⟩))∧W.cell? ⟨F.al,8,none⟩=some (.pointer (some ⟨F.aw,0,none⟩)))) kX (by first|with_reducible exact hS|go_keep) (fun aC5=>?_);refine wpAnyH_take (i:=0) (v:= ?v0) rfl kX kX kX (fun _ _ _ h=>h) (Or.inl ⟨bn8,?J2⟩) uX ?ax1
 case J2=>(intro w0 hSw;(try dsimp only at hSw);go_simp;try with_reducible rfl)
 try simp only[Act.put,List.setIfInBounds_toArray,List.set_cons_zero,List.set_cons_succ]
 refine wpAnyH_take (i:=2) (v:= ?v2) rfl kX kX kX (fun _ _ _ h=>h) (Or.inl ⟨bn8,?rN⟩) uX ?ax3
 case rN=>(intro w0 hSw;(try dsimp only at hSw);go_simp;try with_reducible rfl)
 try simp only[Act.put,List.setIfInBounds_toArray,List.set_cons_zero,List.set_cons_succ]
 refine wpAnyH_take (i:=4) (v:= ?v4) rfl kX kX kX (fun _ _ _ h=>h) (Or.inl ⟨bn8,?hy4⟩) uX ?aG5
 case hy4=>(intro w0 hSw;(try dsimp only at hSw);go_simp;try with_reducible rfl)
 try simp only[Act.put,List.setIfInBounds_toArray,List.set_cons_zero,List.set_cons_succ]
 refine wpAnyH_take (i:=6) (v:= ?v6) rfl kX kX kX (fun _ _ _ h=>h) (Or.inl ⟨bn8,?hy6⟩) uX ?aG6
 case hy6=>(intro w0 hSw;(try dsimp only at hSw);go_simp;try with_reducible rfl)
 try simp only[Act.put,List.setIfInBounds_toArray,List.set_cons_zero,List.set_cons_succ]
 refine wpAnyH_take (i:=7) (v:= ?v7) rfl kX kX kX (fun _ _ _ h=>h) (Or.inl ⟨bn8,?hy7⟩) uX ?aG7
 case hy7=>(intro w0 hSw;(try dsimp only at hSw);go_simp;try with_reducible rfl)
 try simp only[Act.put,List.setIfInBounds_toArray,List.set_cons_zero,List.set_cons_succ]
 refine wpAnyH_take (i:=8) (v:= ?v8) rfl kX kX kX (fun _ _ _ h=>h) (Or.inl ⟨bn8,?hy8⟩) uX ?aG8
 case hy8=>(intro w0 hSw;(try dsimp only at hSw);go_simp;try with_reducible rfl)
 try simp only[Act.put,List.setIfInBounds_toArray,List.set_cons_zero,List.set_cons_succ]
 refine wpAnyH_take (i:=9) (v:= ?v9) rfl kX kX kX (fun _ _ _ h=>h) (Or.inl ⟨bn8,?hy9⟩) uX ?aG9
 case hy9=>(intro w0 hSw;(try dsimp only at hSw);go_simp;try with_reducible rfl)
 try simp only[Act.put,List.setIfInBounds_toArray,List.set_cons_zero,List.set_cons_succ]
 refine wpAnyH_take (i:=10) (v:= ?v10) rfl kX kX kX (fun _ _ _ h=>h) (Or.inl ⟨bn8,?aC6⟩) uX ?aC7
 case aC6=>(intro w0 hSw;(try dsimp only at hSw);go_simp;try with_reducible rfl)
 try simp only[Act.put,List.setIfInBounds_toArray,List.set_cons_zero,List.set_cons_succ]
 refine wpAnyH_take (i:=11) (v:= ?v11) rfl kX kX kX (fun _ _ _ h=>h) (Or.inl ⟨bn8,?aC8⟩) uX ?aC9
 case aC8=>(intro w0 hSw;(try dsimp only at hSw);go_simp;try with_reducible rfl)
 try simp only[Act.put,List.setIfInBounds_toArray,List.set_cons_zero,List.set_cons_succ]
 refine wpAnyH_take (i:=12) (v:= ?v12) rfl kX kX kX (fun _ _ _ h=>h) (Or.inl ⟨bn8,?aD0⟩) uX ?aD1
 case aD0=>(intro w0 hSw;(try dsimp only at hSw);go_simp;try with_reducible rfl)
 try simp only[Act.put,List.setIfInBounds_toArray,List.set_cons_zero,List.set_cons_succ]
 refine wpAnyH_take (i:=13) (v:= ?v13) rfl kX kX kX (fun _ _ _ h=>h) (Or.inl ⟨bn8,?aD2⟩) uX ?aD3
 case aD2=>(intro w0 hSw;(try dsimp only at hSw);go_simp;try with_reducible rfl)
 try simp only[Act.put,List.setIfInBounds_toArray,List.set_cons_zero,List.set_cons_succ]
 refine wpAnyH_take (i:=14) (v:= ?v14) rfl kX kX kX (fun _ _ _ h=>h) (Or.inl ⟨bn8,?ap4⟩) uX ?aD4
 case ap4=>(intro w0 hSw;(try dsimp only at hSw);go_simp;try with_reducible rfl)
 try simp only[Act.put,List.setIfInBounds_toArray,List.set_cons_zero,List.set_cons_succ]
 refine wpAnyH_take (i:=15) (v:= ?v15) rfl kX kX kX (fun _ _ _ h=>h) (Or.inl ⟨bn8,?aD5⟩) uX ?aD6
 case aD5=>(intro w0 hSw;(try dsimp only at hSw);go_simp;try with_reducible rfl)
 try simp only[Act.put,List.setIfInBounds_toArray,List.set_cons_zero,List.set_cons_succ]
 refine wpAnyH_take (i:=16) (v:= ?v16) rfl kX kX kX (fun _ _ _ h=>h) (Or.inl ⟨bn8,?aD7⟩) uX ?aD8
 case aD7=>(intro w0 hSw;(try dsimp only at hSw);go_simp;try with_reducible rfl)
 try simp only[Act.put,List.setIfInBounds_toArray,List.set_cons_zero,List.set_cons_succ]
 refine wpAnyH_take (i:=17) (v:= ?v17) rfl kX kX kX (fun _ _ _ h=>h) (Or.inl ⟨bn8,?aD9⟩) uX ?aE0
 case aD9=>(intro w0 hSw;(try dsimp only at hSw);go_simp;try with_reducible rfl)
 try simp only[Act.put,List.setIfInBounds_toArray,List.set_cons_zero,List.set_cons_succ]
 refine wpAnyH_take (i:=19) (v:= ?v19) rfl kX kX kX (fun _ _ _ h=>h) (Or.inl ⟨bn8,?aE1⟩) uX ?aE2
 case aE1=>(intro w0 hSw;(try dsimp only at hSw);go_simp;try with_reducible rfl)
 try simp only[Act.put,List.setIfInBounds_toArray,List.set_cons_zero,List.set_cons_succ]
 refine wpAnyH_take (i:=20) (v:= ?v20) rfl kX kX kX (fun _ _ _ h=>h) (Or.inl ⟨bn8,?aE3⟩) uX ?aE4
 case aE3=>(intro w0 hSw;(try dsimp only at hSw);go_simp;try with_reducible rfl)
 try simp only[Act.put,List.setIfInBounds_toArray,List.set_cons_zero,List.set_cons_succ]
 refine wpAnyH_take (i:=21) (v:= ?v21) rfl kX kX kX (fun _ _ _ h=>h) (Or.inl ⟨bn8,?aE5⟩) uX ?aE6
 case aE5=>(intro w0 hSw;(try dsimp only at hSw);go_simp;try with_reducible rfl)
 try simp only[Act.put,List.setIfInBounds_toArray,List.set_cons_zero,List.set_cons_succ]
 refine wpAnyH_take (i:=22) (v:= ?v22) rfl kX kX kX (fun _ _ _ h=>h) (Or.inl ⟨bn8,?aE7⟩) uX ?aE8
 case aE7=>(intro w0 hSw;(try dsimp only at hSw);go_simp;try with_reducible rfl)
 try simp only[Act.put,List.setIfInBounds_toArray,List.set_cons_zero,List.set_cons_succ]
 refine wpAnyH_take (i:=23) (v:= ?v23) rfl kX kX kX (fun _ _ _ h=>h) (Or.inl ⟨bn8,?aE9⟩) uX ?aF0
 case aE9=>(intro w0 hSw;(try dsimp only at hSw);go_simp;try with_reducible rfl)
 try simp only[Act.put,List.setIfInBounds_toArray,List.set_cons_zero,List.set_cons_succ]
 refine wpAnyH_take (i:=24) (v:= ?v24) rfl kX kX kX (fun _ _ _ h=>h) (Or.inl ⟨bn8,?aF1⟩) uX ?aF2
 case aF1=>(intro w0 hSw;(try dsimp only at hSw);go_simp;try with_reducible rfl)
 try simp only[Act.put,List.setIfInBounds_toArray,List.set_cons_zero,List.set_cons_succ]
 refine wpAnyH_take (i:=27) (v:= ?v27) rfl kX kX kX (fun _ _ _ h=>h) (Or.inl ⟨bn8,?aF3⟩) uX ?aF4
 case aF3=>(intro w0 hSw;(try dsimp only at hSw);go_simp;try with_reducible rfl)
 try simp only[Act.put,List.setIfInBounds_toArray,List.set_cons_zero,List.set_cons_succ]
 refine wpAnyH_take (i:=28) (v:= ?v28) rfl kX kX kX (fun _ _ _ h=>h) (Or.inl ⟨bn8,?aF5⟩) uX ?aF6
 case aF5=>(intro w0 hSw;(try dsimp only at hSw);go_simp;try with_reducible rfl)
 try simp only[Act.put,List.setIfInBounds_toArray,List.set_cons_zero,List.set_cons_succ]
 refine wpAnyH_take (i:=29) (v:= ?v29) rfl kX kX kX (fun _ _ _ h=>h) (Or.inl ⟨bn8,?aF7⟩) uX ?aF8
 case aF7=>(intro w0 hSw;(try dsimp only at hSw);go_simp;try with_reducible rfl)
 try simp only[Act.put,List.setIfInBounds_toArray,List.set_cons_zero,List.set_cons_succ]
 refine wpAnyH_take (i:=30) (v:= ?v30) rfl kX kX kX (fun _ _ _ h=>h) (Or.inl ⟨bn8,?aF9⟩) uX ?aG0
 case aF9=>(intro w0 hSw;(try dsimp only at hSw);go_simp;try with_reducible rfl)
 try simp only[Act.put,List.setIfInBounds_toArray,List.set_cons_zero,List.set_cons_succ]
 refine wpAnyH_take (i:=31) (v:= ?v31) rfl kX kX kX (fun _ _ _ h=>h) (Or.inl ⟨bn8,?aG1⟩) uX ?aG2
 case aG1=>(intro w0 hSw;(try dsimp only at hSw);go_simp;try with_reducible rfl)
 try simp only[Act.put,List.setIfInBounds_toArray,List.set_cons_zero,List.set_cons_succ]
 refine wpAnyH_take (i:=32) (v:= ?v32) rfl kX kX kX (fun _ _ _ h=>h) (Or.inl ⟨bn8,?aG3⟩) uX ?aG4
 case aG3=>(intro w0 hSw;(try dsimp only at hSw);go_simp;try with_reducible rfl)
 try simp only[Act.put,List.setIfInBounds_toArray,List.set_cons_zero,List.set_cons_succ]
 repeat' first
  |(have hK2:=hK;clear hK2
    go_simp
    try first
     |(go_at_call 53;(first|(have X9:=ag (X.out);with_reducible refine(H53.out _ _ _ X9.out).mono ?_)|(have X9:=ag (X.out.drew);with_reducible refine(H53.out _ _ _ X9.out).mono ?_));rintro e w2 ⟨rfl,rfl⟩;have X:=X9;have hS:=PX.out _ _ X.out;have t4:=T4.out _ _ X.out)
     |(go_at_call 54;(first|(have X9:=ag (X.out);with_reducible refine(H54.out _ _ _ X9.out).mono ?_)|(have X9:=ag (X.out.drew);with_reducible refine(H54.out _ _ _ X9.out).mono ?_));rintro e w2 ⟨ba,bc,rfl,x⟩;have X:=ag x;have hS:=PX.out _ _ X.out;have t4:=T4.out _ _ X.out;clear x)
     |(go_at_call 55;(first|(have X9:=ag (X.out);with_reducible refine(H55.out _ _ _ X9.out).mono ?_)|(have X9:=ag (X.out.drew);with_reducible refine(H55.out _ _ _ X9.out).mono ?_));rintro e w2 ⟨rfl,rfl⟩;have X:=X9;have hS:=PX.out _ _ X.out;have t4:=T4.out _ _ X.out)
     |(go_at_call 57;refine(H57 _).mono ?_;rintro e w2 ⟨rfl,rfl⟩)
     |(go_at_call 58;refine(H58 _).mono ?_;rintro e w2 ⟨rfl,rfl⟩)
     |(go_at_call 56;have XA:Hid (ix wr _ [_] none):=X;(first|(have X9:=ag (XA.out);with_reducible refine(H56.out _ _ X9.out).mono ?_)|(have X9:=ag (XA.out.drew);with_reducible refine(H56.out _ _ X9.out).mono ?_));rintro e w2 ⟨aR,cR,rfl,x⟩;have X:=ag x;have hS:=PX.out _ _ X.out;have t4:=T4.out _ _ X.out;clear x XA)
     |(go_at_call 56;have XA:Hid (ix wr _ [_,_] none):=X;(first|(have X9:=ag (XA.out);with_reducible refine(WR.out _ _ _ X9.out).mono ?_)|(have X9:=ag (XA.out.drew);with_reducible refine(WR.out _ _ _ X9.out).mono ?_));rintro e w8 ⟨aQ,cQ,rfl,x⟩;have X8:=ag x;have hS:=PX.out _ _ X8.out;have t4:=T4.out _ _ X8.out;have Er:=Mw.out.2.2.2.2.2.eC X8.out.below;have HO8:=ag (Er.Zo (by rw[yO Ds Mw.out.2.2.2.2.1,Mw.out.2.2.2.1]));have PY:wA.heap.size≤w8.heap.size:=Er.lo.2;have WS:=Er.VY;clear Er x XA)
    first|refine hK.out _ _ ?_ (fun aC5=>?_)|(go_wp2_with fail;refine hK.out _ _ ?_ (fun aC5=>?_))
    ·exact bd3
    clear hK K
    try simp only[Act.put,List.setIfInBounds_toArray,List.set_cons_zero,List.set_cons_succ])
  |refine wpAnyH_ready (rs:=[39]) (by decide+kernel) (by simp) (AllReadyH.cons rfl (fun K hK=>?_) AllReadyH.nil)
  |(refine wpAnyH_ready (rs:=[37]) (by decide+kernel) (by simp) (AllReadyH.cons rfl (fun K hK=>?_) AllReadyH.nil)
    (refine jN (us:=#[I np,.slice ba XS bc,B cl,I ow,.slice aR nR cR,.slice aQ nQ cQ]) (w2:=w8) rfl (.tmp 102) (.tmp 137) 36 rfl UM yi yz0 yz1 yz2 rfl dX dX rfl rfl bi9 (.slice ha k hc) k _ rfl HO8 rfl oX PY ?_;intro gg cap w9 jl bX bE;have kz:(w8.alloc (.cells #[I np,.slice ba XS bc,B cl,I ow,.slice aR nR cR,.slice aQ nQ cQ] 59)).grownBy w9 (Value.slice ha k hc).ownBlock:=xb bX rfl rfl rfl rfl;have F6:=(Mw.out.2.2.2.2.2.eC X8.out.below).alloc (.cells #[I np,.slice ba XS bc,B cl,I ow,.slice aR nR cR,.slice aQ nQ cQ] 59);have tl:=F6.al8 kz;have t49:w9.cell? ⟨bx,4,none⟩=some (.slice ha k hc):=((kZ tl).trans (F6.cell 4 _ rfl));have f49:w9.frozen? ⟨bx,4,none⟩=false:=((xp tl).trans (F6.frozen 4));have hB9:Below wA.heap.size wA w9:=F6.lo.1.grown kz F6.lo.2 (fun b hb=>F6.Zp hb);have hS:=HSX.out _ hB9;have H9:=ag (dO jl (dO kz bE));clear jl bX bE kz F6 tl)
    refine hK.out _ _ ?_ (fun aC5=>?_)
    ·exact bd3
    clear hK K
    try simp only[Act.put,List.setIfInBounds_toArray,List.set_cons_zero,List.set_cons_succ])
  |refine wpAnyH_ready (rs:=[36]) (by decide+kernel) (by simp) (AllReadyH.cons rfl (fun K hK=>?_) AllReadyH.nil)
  |refine wpAnyH_ready (rs:=[34]) (by decide+kernel) (by simp) (AllReadyH.cons rfl (fun K hK=>?_) AllReadyH.nil)
  |refine wpAnyH_ready (rs:=[33]) (by decide+kernel) (by simp) (AllReadyH.cons rfl (fun K hK=>?_) AllReadyH.nil)
  |refine wpAnyH_ready (rs:=[26]) (by decide+kernel) (by simp) (AllReadyH.cons rfl (fun K hK=>?_) AllReadyH.nil)
  |refine wpAnyH_ready (rs:=[25]) (by decide+kernel) (by simp) (AllReadyH.cons rfl (fun K hK=>?_) AllReadyH.nil)
  |refine wpAnyH_ready (rs:=[18]) (by decide+kernel) (by simp) (AllReadyH.cons rfl (fun K hK=>?_) AllReadyH.nil)
  |refine wpAnyH_ready (rs:=[5]) (by decide+kernel) (by simp) (AllReadyH.cons rfl (fun K hK=>?_) AllReadyH.nil)
  |refine wpAnyH_ready (rs:=[3]) (by decide+kernel) (by simp) (AllReadyH.cons rfl (fun K hK=>?_) AllReadyH.nil)
  |refine wpAnyH_ready (rs:=[1]) (by decide+kernel) (by simp) (AllReadyH.cons rfl (fun K hK=>?_) AllReadyH.nil)
  |refine wpAnyH_ready (rs:=[1,36]) (by decide+kernel) (by simp) (AllReadyH.cons rfl (fun K hK=>?_) (AllReadyH.cons rfl (fun K hK=>?_) AllReadyH.nil))
  |refine wpAnyH_ready (rs:=[1,34]) (by decide+kernel) (by simp) (AllReadyH.cons rfl (fun K hK=>?_) (AllReadyH.cons rfl (fun K hK=>?_) AllReadyH.nil))
  |refine wpAnyH_ready (rs:=[1,33]) (by decide+kernel) (by simp) (AllReadyH.cons rfl (fun K hK=>?_) (AllReadyH.cons rfl (fun K hK=>?_) AllReadyH.nil))
  |refine wpAnyH_ready (rs:=[1,26]) (by decide+kernel) (by simp) (AllReadyH.cons rfl (fun K hK=>?_) (AllReadyH.cons rfl (fun K hK=>?_) AllReadyH.nil))
  |refine wpAnyH_ready (rs:=[1,25]) (by decide+kernel) (by simp) (AllReadyH.cons rfl (fun K hK=>?_) (AllReadyH.cons rfl (fun K hK=>?_) AllReadyH.nil))
  |refine wpAnyH_ready (rs:=[1,18]) (by decide+kernel) (by simp) (AllReadyH.cons rfl (fun K hK=>?_) (AllReadyH.cons rfl (fun K hK=>?_) AllReadyH.nil))
  |refine wpAnyH_ready (rs:=[1,5]) (by decide+kernel) (by simp) (AllReadyH.cons rfl (fun K hK=>?_) (AllReadyH.cons rfl (fun K hK=>?_) AllReadyH.nil))
  |refine wpAnyH_ready (rs:=[1,3]) (by decide+kernel) (by simp) (AllReadyH.cons rfl (fun K hK=>?_) (AllReadyH.cons rfl (fun K hK=>?_) AllReadyH.nil))
  |(refine wpAnyH_take (i:=35) (v:=_) rfl (by kernel_rfl) (by kernel_rfl) (by decide+kernel) (fun _ _ _ h=>h) (Or.inl ⟨by rfl,by intro w0 hSw;(try dsimp only at hSw);go_simp;try with_reducible rfl⟩) (by assumption) ?_;try simp only[Act.put,List.setIfInBounds_toArray,List.set_cons_zero,List.set_cons_succ])
  |(refine wpAnyH_take (i:=38) (v:=_) rfl (by kernel_rfl) (by kernel_rfl) (by decide+kernel) (fun _ _ _ h=>h) (Or.inl ⟨by rfl,by intro w0 hSw;(try dsimp only at hSw);go_simp;try with_reducible rfl⟩) (by assumption) ?_;try simp only[Act.put,List.setIfInBounds_toArray,List.set_cons_zero,List.set_cons_succ])
  |refine wpAnyH_done (by decide+kernel) ?_ _
 all_goals refine NoPanic.normal ?_
 all_goals
  have HN9:Hid (∃As Vs Ds,As.length=j∧(∀A∈As,A.length=25)∧Vs.length=j∧Ds.length=k+1∧(∀D∈Ds,D.length=6)∧mw wA (w9.setCell ⟨bx,4,none⟩ (.slice (some ⟨gg,0,none⟩) (k+1) cap)) S bx (.slice sa S.ah.length sc) (.slice ma S.Eg.aK.length mc) (.slice da S.draws.length dc) (.slice xa S.done.length xc) j j (k+1) (.slice ga j gc) (.slice ca j cc) (.slice (some ⟨gg,0,none⟩) (k+1) cap) As.flatten Vs Ds.flatten (yQ S ls sa ma da xa As Vs Ds)):=by
   obtain⟨l1,l2,l3,l4,l5,hl⟩:=Mw.out;obtain⟨jl,kz,bE⟩:=H9.out;obtain⟨hr,fA,gm,_,_⟩:=Jf.out;obtain⟨rfl,rfl,rfl,rfl,rfl,Ci,Sm⟩:=Mv.out;have X:=X8.out;have f1:=X.fr (ba,r.count.toNat,qi r r.count.toNat) sX;have f2:=X.fr (aR,lr.length,uU lr) sX;have f3:=X.fr (aQ,lq.length,uU lq) sX;have r1:=X.rd (ba,r.count.toNat,qi r r.count.toNat) sX;have r2:=X.rd (aR,lr.length,uU lr) sX;have r3:=X.rd (aQ,lq.length,uU lq) sX
   have Er:=hl.more X.below (Q:=yQ S ls sa ma da xa As Vs (Ds++[[I r.places.length,.slice ba r.count.toNat bc,B cl,I (owner S.aq k),.slice aR lr.length cR,.slice aQ lq.length cQ]])) (fun W hW hP=>hP.OB (r:=r) (by rw[l4];exact hr) (by
    rw[l4];refine⟨ba,bc,cl,aR,cR,aQ,cQ,by rw[Ci,Sm],gm,gC.nz r1 hW (fun b off e=>(f1 b off e).1),?_,?_⟩
    ·rw[Ci];exact gC.nz r2 hW (fun b off e=>(f2 b off e).1)
    ·rw[Sm];exact gC.nz r3 hW (fun b off e=>(f3 b off e).1)))
   refine⟨As,Vs,Ds++[[I r.places.length,.slice ba r.count.toNat bc,B cl,I (owner S.aq k),.slice aR lr.length cR,.slice aQ lq.length cQ]],l1,l2,l3,by rw[py,l4];rfl,fun D hD=>?_,?_⟩
   ·rcases List.mem_append.1 hD with h|h
    ·exact l5 D h
    ·rw[List.mem_singleton]at h;rw[h];rfl
   ·rw[List.flatten_append,List.flatten_singleton];exact(Er.alloc (.cells #[I r.places.length,.slice ba r.count.toNat bc,B cl,I (owner S.aq k),.slice aR lr.length cR,.slice aQ lq.length cQ] 59)).OB kz jl bE
  clear H9 Mw HO8 PY WS t49 f49 hB9 hS t4 X X8 HSX PX T4 H53 H54 H55 H57 H58 H56 WR hwr;exact HQ _ _ _ _ _ _ _ _ _ _ _ _ _ _ _ _ _ _ _ _ _ _ _ _ _ _ _ _ _ _ _ _ _ _ _ _ _ _ _ _ gg cap HN9
section
variable{af:Nat}{F:Fx}{w w0:World}{m m0:Mem}{S:Wd}
theorem JK{ls:List (List Nat)}(R:bz af F w m S)(hs:tc S ls):Calls prog 26 #[.pointer (some ⟨F.al,0,none⟩)] w fun e w'=>∃sa sc ma mc da dc xa xc ga gc ca cc ha hc As Vs Ds,e=.returned (.agg #[I S.dV,I S.eT,I S.av,.slice ga S.gs.length gc,.slice ha S.au.length hc,.slice sa S.ah.length sc,.slice ca S.gs.length cc,.slice ma S.Eg.aK.length mc,I S.Eg.cO,.slice da S.draws.length dc,I S.drawn,.slice xa S.done.length xc])∧yS S ls w w' sa ma da xa ga ca ha As Vs Ds∧(S.au.length=0→ha=none∧hc=0):=by
 obtain⟨i0,hi,fV,gF,gG⟩:=info_parts xU;obtain⟨i1,ki,JV,JW,JX⟩:=info_parts xO;obtain⟨i2,li,lz0,lz1,lz2⟩:=info_parts SE;obtain⟨i3,gi,RO,RP,RQ⟩:=info_parts uS;obtain⟨i4,vi,vz0,vz1,vz2⟩:=info_parts Tryz.SD;obtain⟨a1,c1,h1,r1⟩:=R.Ib (r:=.ah) (n:=S.ah.length) (fun h=>by rw[nu (f:=mg) (k:=7) (fun _ _=>rfl) dX (show bT mg 0 S.ah=[]from h)];rfl);obtain⟨a2,c2,h2,r2⟩:=R.Ib (r:=.draws) (n:=S.draws.length) (fun h=>qF (show S.draws.map U=[]from h));obtain⟨a3,c3,h3,r3⟩:=R.Ib (r:=.done) (n:=S.done.length) (fun h=>by rw[nu (f:=ib) (k:=13) (fun _ _=>rfl) dX (show bT ib 0 S.done=[]from h)];rfl);obtain⟨n1,xS⟩:∃n,n=S.ah.length:=⟨_,rfl⟩;obtain⟨n2,RH⟩:∃n,n=S.draws.length:=⟨_,rfl⟩;obtain⟨n3,Ym⟩:∃n,n=S.done.length:=⟨_,rfl⟩;obtain⟨k1,jg⟩:∃k,k=bT mg 0 S.ah:=⟨_,rfl⟩;obtain⟨k2,jO⟩:∃k,k=S.draws.map U:=⟨_,rfl⟩;obtain⟨k3,sk⟩:∃k,k=bT ib 0 S.done:=⟨_,rfl⟩;have l1:k1.length=n1*7:=by rw[jg,xS];exact aV9 (f:=mg) (k:=7) (fun _ _=>rfl) _ _
 have l2:k2.length=n2*1:=by rw[jO,RH];simp
 have l3:k3.length=n3*13:=by rw[sk,Ym];exact aV9 (f:=ib) (k:=13) (fun _ _=>rfl) _ _
 have o1:∀u∈k1,u.oneCell'=true:=by rw[jg];exact Fe _ _
 have o2:∀u∈k2,u.oneCell'=true:=by rw[jO];exact ints_oneCell _ _
 have o3:∀u∈k3,u.oneCell'=true:=by rw[sk];exact BT _ _
 have r1:gC w a1 n1 k1:=by rw[xS,jg];exact r1
 have r2:gC w a2 n2 k2:=by rw[RH,jO];exact r2
 have r3:gC w a3 n3 k3:=by rw[Ym,sk];exact r3
 have b1:n1≤64:=by rw[xS];exact hs.Rw
 have b2:n2≤1000:=by rw[RH];exact hs.draws
 have b3:n3≤900000:=by rw[Ym];exact hs.done
 obtain⟨wA,tY⟩:=dC (w.alloc (.cells #[I 0,I 0,I 0,.slice none 0 0,.slice none 0 0,.slice none 0 0,.slice none 0 0,.slice none 0 0,I 0,.slice none 0 0,I 0,.slice none 0 0] 41));have JL:Below w.heap.size w wA:=bs1
 have RA:bz af F wA m S:=R.below JL;have r1:gC wA a1 n1 k1:=r1.below JL cG;have r2:gC wA a2 n2 k2:=r2.below JL cG;have r3:gC wA a3 n3 k3:=r3.below JL cG;have s9:m.cU .ah S.ah.length=.slice a1 n1 c1:=by rw[h1,xS]
 have Ao:Hid (∀W,Below wA.heap.size wA W→W.cell? ⟨F.al,0,none⟩=some (I S.dV)∧W.cell? ⟨F.al,1,none⟩=some (I S.eT)∧W.cell? ⟨F.al,2,none⟩=some (I S.av)∧W.cell? ⟨F.al,9,none⟩=some (.slice a1 n1 c1)∧
   W.cell? ⟨F.al,10,none⟩=some (.pointer (some ⟨F.Eg,0,none⟩))∧W.cell? ⟨F.al,11,none⟩=some (.pointer (some ⟨F.gN,0,none⟩))∧W.cell? ⟨F.al,12,none⟩=some (.slice a2 n2 c2)∧W.cell? ⟨F.al,13,none⟩=some (.slice a3 n3 c3)):=fun W hb=>by
  have RW:=RA.below hb;refine⟨RW.cW 0 _ rfl,RW.cW 1 _ rfl,RW.dM,?_,RW.tf,RW.Us,?_,?_⟩
  ·rw[←s9];exact RW.cW 9 _ rfl
  ·rw[RH,←h2];exact RW.Vo
  ·rw[Ym,←h3];exact RW.NF
 have Ug:=ag (fun(W:World) (L:List td) (bo:Option Nat) (H:ix wA W L bo)=>(ET (RA.below H.below) hs.mid).mono (R':=fun e w'=>∃a c,e=.returned (.slice a S.Eg.aK.length c)∧ix wA w' ((a,S.Eg.aK.length,S.Eg.aK.map I)::L) bo) (by rintro e w' ⟨a,c,he,h1,h2,h3⟩;exact⟨a,c,he,H.ext h2 h1 h3⟩));have UG:=ag (fun(W:World) (L:List td) (bo:Option Nat) (H:ix wA W L bo)=>Ic (RA.below H.below));have GN:=ag (fun(W:World) (L:List td) (bo:Option Nat) (H:ix wA W L bo)=>EV (RA.below H.below));have Uh:=ag (fun(ops:Array Oper) (o:Oper) (ac:Act) (K:Act→World→Prop) (Q:Exit→Act→World→Prop) (E:Prop) (W:World) (L:List td) (bo:Option Nat) (H:ix wA W L bo)=>tR (P:=prog) (ops:=ops) (o:=o) (a:=ac) (w:=W) (K:=K) (Q:=Q) (E:=E) (s:=.const (.slice none 0 0)) (x:=.tmp 19) (t:=37) (ht:=underlying37) (hi:=hi) (hz:=fV) (hsize:=gF) (hby:=gG) (hzs:=rfl) (hsz:=dX) (hbb:=dX) (ao:=a1) (n:=n1) (c:=c1) (cs:=k1) (hl:=l1) (hc:=r1.below H.below cG) (h1:=o1) (hn:=oX));have Ui:=ag (fun(ops:Array Oper) (o:Oper) (ac:Act) (K:Act→World→Prop) (Q:Exit→Act→World→Prop) (E:Prop) (W:World) (L:List td) (bo:Option Nat) (H:ix wA W L bo)=>tR (P:=prog) (ops:=ops) (o:=o) (a:=ac) (w:=W) (K:=K) (Q:=Q) (E:=E) (s:=.const (.slice none 0 0)) (x:=.tmp 34) (t:=25) (ht:=underlying25) (hi:=ki) (hz:=JV) (hsize:=JW) (hby:=JX) (hzs:=rfl) (hsz:=dX) (hbb:=dX) (ao:=a2) (n:=n2) (c:=c2) (cs:=k2) (hl:=l2) (hc:=r2.below H.below cG) (h1:=o2) (hn:=oX));have Uj:=ag (fun(ops:Array Oper) (o:Oper) (ac:Act) (K:Act→World→Prop) (Q:Exit→Act→World→Prop) (E:Prop) (W:World) (L:List td) (bo:Option Nat) (H:ix wA W L bo)=>tR (P:=prog) (ops:=ops) (o:=o) (a:=ac) (w:=W) (K:=K) (Q:=Q) (E:=E) (s:=.const (.slice none 0 0)) (x:=.tmp 44) (t:=39) (ht:=underlying39) (hi:=li) (hz:=lz0) (hsize:=lz1) (hby:=lz2) (hzs:=rfl) (hsz:=dX) (hbb:=dX) (ao:=a3) (n:=n3) (c:=c3) (cs:=k3) (hl:=l3) (hc:=r3.below H.below cG) (h1:=o3) (hn:=oX));have Ke:=ag (dO xS (dO RH (dO Ym (dO jg (dO jO sk)))));have vD:=ag hs;clear hs xS RH Ym jg jO sk l1 l2 l3 o1 o2 o3 r1 r2 r3 s9 h1 h2 h3;go_enter func26,ntmps26;go_upto_region 1 with fail
 obtain⟨rs,vY⟩:∃r,r=w.heap.size:=⟨_,rfl⟩;rw[←tY,←vY];have X0:ix wA wA [] none:=⟨fp _ _,fun e he=>by(cases he),fun e he=>by(cases he),fun b h=>by(cases h)⟩;have D4:Hid (wA.heap[rs]?=some (.cells qG 41 (0,0))∧rs=w.heap.size∧wA.heap.size=rs+1∧Below w.heap.size w wA):=by refine⟨by rw[tY,vY];exact dP _ _,vY,by rw[tY,vY];simp,JL⟩
 have X1:=ag X0;have X:=ag X0.drew;have hS:=Ao.out _ X.out.below;have HR:=ag RA;clear tY X0 vY R RA JL;go_cut [3]from 8 to 46 (fun x wx=>∃bx sa sc ma mc da dc xa xc,x=.pointer (some ⟨bx,0,none⟩)∧Hid (rk wA wx S bx sa sc ma mc da dc xa xc))
 case first=>
  go_region_held3 (fun W=>W.cell? ⟨F.al,0,none⟩=some (I S.dV)∧W.cell? ⟨F.al,1,none⟩=some (I S.eT)∧W.cell? ⟨F.al,2,none⟩=some (I S.av)∧W.cell? ⟨F.al,9,none⟩=some (.slice a1 n1 c1)∧
   W.cell? ⟨F.al,10,none⟩=some (.pointer (some ⟨F.Eg,0,none⟩))∧W.cell? ⟨F.al,11,none⟩=some (.pointer (some ⟨F.gN,0,none⟩))∧W.cell? ⟨F.al,12,none⟩=some (.slice a2 n2 c2)∧W.cell? ⟨F.al,13,none⟩=some (.slice a3 n3 c3)) (first|with_reducible exact hS|with_reducible exact Ao.out _ ((((((((((((X.out.below.setCell X.out.Nr _).setCell X.out.Nr _).setCell X.out.Nr _).setCell X.out.Nr _).setCell X.out.Nr _).setCell X.out.Nr _).setCell X.out.Nr _).setCell X.out.Nr _).setCell X.out.Nr _).setCell X.out.Nr _).setCell X.out.Nr _).setCell X.out.Nr _)|with_reducible exact Ao.out _ X.out.new.below|with_reducible exact Ao.out _ X1.out.new.drew.below|go_keep)
   (first
    |((first|(have X9:=ag (X.out);with_reducible refine Uh.out _ _ _ _ _ _ _ _ _ X9.out rfl rfl bj0 bj0 ?_)|(have X9:=ag (X.out.new);with_reducible refine Uh.out _ _ _ _ _ _ _ _ _ X9.out rfl rfl bj0 bj0 ?_)|(have X9:=ag (X1.out.new.drew);with_reducible refine Uh.out _ _ _ _ _ _ _ _ _ X9.out rfl rfl bj0 bj0 ?_));intro sa sc wS hb mj BZ;have X:=ag (X9.out.ext hb mj BZ);have hS:=Ao.out _ X.out.below;clear hb mj BZ;(try obtain⟨q0,q1,q2,q3,q4,q5,q6,q7,q8,q9,q10,q11,qf⟩:=X.out.cells))
    |((first|(have X9:=ag (X.out);with_reducible refine Ui.out _ _ _ _ _ _ _ _ _ X9.out rfl rfl bj0 bj0 ?_)|(have X9:=ag (X.out.new);with_reducible refine Ui.out _ _ _ _ _ _ _ _ _ X9.out rfl rfl bj0 bj0 ?_)|(have X9:=ag (X1.out.new.drew);with_reducible refine Ui.out _ _ _ _ _ _ _ _ _ X9.out rfl rfl bj0 bj0 ?_));intro da dc wD hb mj BZ;have X:=ag (X9.out.ext hb mj BZ);have hS:=Ao.out _ X.out.below;clear hb mj BZ;(try obtain⟨q0,q1,q2,q3,q4,q5,q6,q7,q8,q9,q10,q11,qf⟩:=X.out.cells))
    |((first|(have X9:=ag (X.out);with_reducible refine Uj.out _ _ _ _ _ _ _ _ _ X9.out rfl rfl bj0 bj0 ?_)|(have X9:=ag (X.out.new);with_reducible refine Uj.out _ _ _ _ _ _ _ _ _ X9.out rfl rfl bj0 bj0 ?_)|(have X9:=ag (X1.out.new.drew);with_reducible refine Uj.out _ _ _ _ _ _ _ _ _ X9.out rfl rfl bj0 bj0 ?_));intro xa xc wX hb mj BZ;have X:=ag (X9.out.ext hb mj BZ);have hS:=Ao.out _ X.out.below;clear hb mj BZ;(try obtain⟨q0,q1,q2,q3,q4,q5,q6,q7,q8,q9,q10,q11,qf⟩:=X.out.cells))
    |(go_at_call 46;(first|(have X9:=ag (X.out);with_reducible refine(Ug.out _ _ _ X9.out).mono ?_)|(have X9:=ag (X.out.new);with_reducible refine(Ug.out _ _ _ X9.out).mono ?_)|(have X9:=ag (X1.out.new.drew);with_reducible refine(Ug.out _ _ _ X9.out).mono ?_));rintro e wM ⟨ma,mc,rfl,x⟩;have X:=ag x;have hS:=Ao.out _ X.out.below;clear x;(try obtain⟨q0,q1,q2,q3,q4,q5,q6,q7,q8,q9,q10,q11,qf⟩:=X.out.cells))
    |(go_at_call 47;(first|(have X9:=ag (X.out);with_reducible refine(UG.out _ _ _ X9.out).mono ?_)|(have X9:=ag (X.out.new);with_reducible refine(UG.out _ _ _ X9.out).mono ?_)|(have X9:=ag (X1.out.new.drew);with_reducible refine(UG.out _ _ _ X9.out).mono ?_));rintro e w2 ⟨rfl,rfl⟩;have X:=X9;have hS:=Ao.out _ X.out.below;(try obtain⟨q0,q1,q2,q3,q4,q5,q6,q7,q8,q9,q10,q11,qf⟩:=X.out.cells))
    |(go_at_call 48;(first|(have X9:=ag (X.out);with_reducible refine(GN.out _ _ _ X9.out).mono ?_)|(have X9:=ag (X.out.new);with_reducible refine(GN.out _ _ _ X9.out).mono ?_)|(have X9:=ag (X1.out.new.drew);with_reducible refine(GN.out _ _ _ X9.out).mono ?_));rintro e w2 ⟨rfl,rfl⟩;have X:=X9;have hS:=Ao.out _ X.out.below;(try obtain⟨q0,q1,q2,q3,q4,q5,q6,q7,q8,q9,q10,q11,qf⟩:=X.out.cells)))
  all_goals go_wp2_with fail
  all_goals go_meet
  all_goals obtain⟨rfl,rfl,rfl,rfl,rfl,rfl⟩:=Ke.out
  all_goals refine⟨_,sa,sc,ma,mc,da,dc,xa,xc,rfl,ag ?_⟩
  all_goals first
   |(with_reducible refine rk.al9 X.out ?_ ?_ ?_ ?_)<;>simp
   |(with_reducible refine rk.am0 X.out ?_ ?_ ?_ ?_)<;>simp
 case rest=>
  obtain⟨bx,sa,sc,ma,mc,da,dc,xa,xc,rfl,HT⟩:=hcut;have h0:Hid (∃As Vs Ds,As.length=0∧(∀A∈As,A.length=25)∧Vs.length=0∧Ds.length=0∧mw wA wc S bx (.slice sa S.ah.length sc) (.slice ma S.Eg.aK.length mc) (.slice da S.draws.length dc) (.slice xa S.done.length xc) 0 0 0 (.slice none 0 0) (.slice none 0 0) (.slice none 0 0) As.flatten Vs Ds.flatten (yQ S ls sa ma da xa As Vs Ds)):=⟨[],[],[],rfl,sX,rfl,rfl,HT.out.start⟩;obtain⟨N,hN⟩:=dC (S.gs.length);have ax5:N≤100:=by rw[hN];exact vD.out.gs
  have HN:=ag hN;have HG:Hid (∀W,Below wA.heap.size wA W→W.cell? ⟨F.al,3,none⟩=some (.slice (some ⟨F.gs,0,none⟩) N (m.cap .gs))∧W.cell? ⟨F.al,4,none⟩=some (.pointer (some ⟨F.dB,0,none⟩))∧W.cell? ⟨F.al,10,none⟩=some (.pointer (some ⟨F.Eg,0,none⟩))):=fun W hb=>by have RW:=HR.out.below hb;exact⟨by rw[HN.out];exact RW.eu,RW.nJ,RW.tf⟩
  obtain⟨c3,c4,Fq⟩:=HG.out _ HT.out.below;clear hN X X1 hS Ug UG GN Uh Ui Uj;go_wp2_with fail
  go_loopw [52] (fun i wr=>∃(j:Nat) (ga:Option Addr) (gc:Nat) (ca:Option Addr) (cc:Nat),i=.int .i64 j∧j≤N∧Hid (∃As Vs Ds,As.length=j∧(∀A∈As,A.length=25)∧Vs.length=j∧Ds.length=0∧mw wA wr S bx (.slice sa S.ah.length sc) (.slice ma S.Eg.aK.length mc) (.slice da S.draws.length dc) (.slice xa S.done.length xc) j j 0 (.slice ga j gc) (.slice ca j cc) (.slice none 0 0) As.flatten Vs Ds.flatten (yQ S ls sa ma da xa As Vs Ds))) (fun i _=>N-(intOf i).toNat)
  case atStart=>exact⟨0,none,0,none,0,rfl,oX,h0⟩
  case round=>
   clear h0;obtain⟨j,ga,gc,ca,cc,rfl,hj,HL⟩:=hrel;have xH:Hid (Below wA.heap.size wA wr∧wA.heap.size≤wr.heap.size):=(by obtain⟨As,Vs,Ds,_,_,_,_,hl⟩:=HL.out;exact hl.lo);obtain⟨c3,c4,Fq⟩:=HG.out _ xH.out.1;by_cases dD:j<N
   ·obtain⟨x,hx⟩:∃x,S.gs[j]?=some x:=⟨_,fv bn0⟩;have RW:=HR.out.below xH.out.1;obtain⟨oa,oc,r1,e1,r2,e2,r3,e3,r4,e4,BS,gm⟩:=LM HR.out hx (vD.out.gor j x hx);obtain⟨A,hA⟩:=dC ((yP x x.bU x.token (.slice oa x.ops.length oc) (.slice r1 x.aH.length e1) (.slice r2 x.aq.length e2) (.slice r3 x.bA.length e3) (.slice r4 x.wakes.length e4)).toArray);rw[←hA]at gm;have KX:Hid (A.size=25):=(by rw[hA];rfl);have ri:Hid (A.all (·.oneCell')=true):=(by rw[hA,←BS];refine ag ?_;rw[List.all_toArray];exact List.all_eq_true.2 (Fc m j x));have HGC:Hid (∀q v,A[q]?=some v→wr.cell? ⟨F.gs,j*25+q,none⟩=some v):=fun q v hq=>RW.g hx q v (by rw[BS];rw[hA]at hq;simpa using hq)
    have tP:=ag gm;have HX:=ag hx;clear RW gm hx BS hA;go_upto_region 4 with fail
    repeat(fail_if_success (refine wpList_load_mid rfl 100 (.tmp 55) rfl F.gs (j*25) rfl A ?_ ?_ ?_ ?_));go_step
    refine wpList_load_mid rfl 100 (.tmp 55) rfl F.gs (j*25) rfl A HGC mC bo8 ?_;repeat(fail_if_success (refine df rfl 100 (.tmp 5) (.tmp 56) rfl wr.heap.size rfl _ A rfl rfl ?_ ?_ ?_ ?_));go_step
    refine df rfl 100 (.tmp 5) (.tmp 56) rfl wr.heap.size rfl _ A rfl rfl bo8 (by rw[KX.out];rfl) ri ?_;go_upto_region 5 with fail
    obtain⟨w1,jk⟩:=dC (wr.alloc (.cells A 100));obtain⟨bg,Ro⟩:∃b,b=wr.heap.size:=⟨_,rfl⟩;rw[←jk,←Ro];have gq:Below wr.heap.size wr w1:=bn1;have eE:w1.heap[bg]?=some (.cells A 100 (0,0)):=(by rw[jk,Ro];exact dP _ _);have ag5:Hid (Calls prog 49 #[.agg A] w1 fun e w'=>∃A2,e=.returned (.agg A2)∧(∃oa oc b1 d1 b2 d2 b3 d3 b4 d4,A2=#[.slice oa x.ops.length oc,I x.at_,I x.ae,I x.bU,B x.token,I x.call,B x.bk,I x.aN,I x.bY,I x.br,I x.t,I x.bJ,I x.point,I x.bF,I x.fire,I x.res.aJ,I x.res.case,I x.res.v,B x.res.ok,I x.res.n,.slice b1 x.aH.length d1,.slice b2 x.aq.length d2,.slice b3 x.bA.length d3,.slice b4 x.wakes.length d4,I x.k])∧A2.size=25∧A2.all (·.oneCell')=true∧(∀st tk W2,lO w1.heap.size w' W2→Zq x st tk ((A2.setIfInBounds 3 (I st)).setIfInBounds 4 (B tk)).toList W2)∧Below w1.heap.size w1 w'):=(by refine(tP w1 (xH.out.1.trans (gq.mono xH.out.2))).mono ?_;rintro e w' ⟨oa,oc,r1,e1,r2,e2,r3,e3,r4,e4,rfl,hr,hb⟩;refine⟨_,rfl,⟨oa,oc,r1,e1,r2,e2,r3,e3,r4,e4,rfl⟩,rfl,?_,fun st tk W2 hW=>hr st tk W2 hW,hb⟩;simp[yP,ru,Value.oneCell']);have HW1:Hid (w1.heap.size=wr.heap.size+1):=(by rw[jk];exact ag sX);have H1:=ag (dO gq (dO eE Ro));clear jk gq Ro tP HGC c3 c4 Fq;refine wp_region_lit ?_;refine wpList_load_mid rfl 100 (.tmp 5) rfl bg 0 rfl A (fun q v hq=>by rw[Nat.zero_add,cr _ _ _ _ _ _ eE];exact hq) mC bo8 ?_;clear eE
    go_wp2_with (first
     |(go_at_call 49;refine ag5.out.mono ?_;rintro e w2 ⟨A2,rfl,Ra,Lf,SZ,jF,mz⟩;have ag6:=ag Ra;have kt:w2.heap[bg]?=some (.cells A 100 (0,0)):=(mz.block bg (dh H1.out.2.1).1).trans H1.out.2.1;have H2:=ag (dO Lf (dO SZ (dO jF (dO mz kt))));clear Lf SZ jF mz kt Ra)
     |(refine cB rfl 100 (.tmp 5) (.tmp 58) rfl bg 0 A2 rfl rfl (by rw[H2.out.1];exact fE) (fun q hq=>by rw[cr _ _ _ _ _ _ H2.out.2.2.2.2,Nat.zero_add,xL (by rw[KX.out];rw[H2.out.1]at hq;exact hq)];rfl) (fun q hq=>iM _ _ _ _ _ H2.out.2.2.2.2) H2.out.2.1 ?_))
    obtain⟨w3,xY⟩:=dC (w2.setCells bg 0 A2.toList);rw[←xY];have nM:w3.heap[bg]?=some (.cells A2 100 (0,0)):=(by rw[xY];exact dI H2.out.2.2.2.2 (by rw[KX.out,H2.out.1]));have yJ:Below wr.heap.size wr w3:=(by rw[xY];exact Below.setCells (by rw[H1.out.2.2];exact Nat.le_refl _) _ _ _ (H1.out.1.trans (H2.out.2.2.2.1.mono H1.out.1.size)));have sk:∀b,b≠bg→w3.heap[b]?=w2.heap[b]?:=fun b hb=>by rw[xY];exact iq hb _ _ _
    have OT:w3.heap.size=w2.heap.size:=(by rw[xY];exact j9 _ _ _);have R3:=HR.out.below (xH.out.1.trans (yJ.mono xH.out.2));have c4:=R3.nJ;have pI:Hid (∀W,W.heap=w3.heap→Calls prog 50 #[.pointer (some ⟨F.dB,0,none⟩),I j] W fun e w'=>e=.returned (I (bU S.ax j))∧w'=W):=fun W hW=>(gZ (R3.heap fun _ b _=>by rw[hW]) j).mono fun e w' h=>⟨h.1,h.2.symm⟩
    have HTK:Hid (∀W,W.heap=w3.heap→Calls prog 51 #[.pointer (some ⟨F.dB,0,none⟩),I j] W fun e w'=>e=.returned (.bool (token S.ax j))∧w'=W):=fun W hW=>(Ij (R3.heap fun _ b _=>by rw[hW]) j).mono fun e w' h=>⟨h.1,h.2.symm⟩
    have HKC:Hid (∀(W:World) (q:Nat) (v u:Value),W.cell? ⟨F.al,4,none⟩=some u→(W.setCell ⟨bg,q,none⟩ v).cell? ⟨F.al,4,none⟩=some u):=fun W q v u h=>by have h1:F.al<wA.heap.size:=HR.out.lt HR.out.aB.al;have h2:=xH.out.2;have h3:=H1.out.2.2;rw[kZ (w:=W) (a:=⟨F.al,4,none⟩) (fQ _ _ _ _ bi8)];exact h
    have y3:w3.cell? ⟨bg,3,none⟩=some (A2[3]'(by rw[H2.out.1];decide)):=by rw[cr _ _ _ _ _ _ nM];exact xL _
    have y4:w3.cell? ⟨bg,4,none⟩=some (A2[4]'(by rw[H2.out.1];decide)):=by rw[cr _ _ _ _ _ _ nM];exact xL _
    have yf:=fun q=>iM w3 bg q _ _ nM
    have yf3:=yf 3;have yf4:=yf 4;have H3:=ag (dO nM (dO yJ (dO sk OT)));clear xY nM yJ sk OT R3 yf;dsimp only[Act.put];go_cut [5]from 59 to 72 (fun u wx=>u=.pointer (some ⟨bg,0,none⟩)∧Hid (∃oa oc b1 d1 b2 d2 b3 d3 b4 d4,wx.heap[bg]?=some (.cells #[.slice oa x.ops.length oc,I x.at_,I x.ae,I (bU S.ax j),B (token S.ax j),I x.call,B x.bk,I x.aN,I x.bY,I x.br,I x.t,I x.bJ,I x.point,I x.bF,I x.fire,I x.res.aJ,I x.res.case,I x.res.v,B x.res.ok,I x.res.n,.slice b1 x.aH.length d1,.slice b2 x.aq.length d2,.slice b3 x.bA.length d3,.slice b4 x.wakes.length d4,I x.k] 100 (0,0))∧Below wr.heap.size wr wx∧(∀W,lO wr.heap.size wx W→Zq x (bU S.ax j) (token S.ax j) [.slice oa x.ops.length oc,I x.at_,I x.ae,I (bU S.ax j),B (token S.ax j),I x.call,B x.bk,I x.aN,I x.bY,I x.br,I x.t,I x.bJ,I x.point,I x.bF,I x.fire,I x.res.aJ,I x.res.case,I x.res.v,B x.res.ok,I x.res.n,.slice b1 x.aH.length d1,.slice b2 x.aq.length d2,.slice b3 x.bA.length d3,.slice b4 x.wakes.length d4,I x.k] W)))
    case first=>
     go_region_held3 (fun W=>W.cell? ⟨F.al,4,none⟩=some (.pointer (some ⟨F.dB,0,none⟩))) (first|exact c4|exact HKC _ _ _ _ ‹_›|go_keep)
      (first
       |(go_at_call 50;refine(pI _ ?_).mono ?_;rfl;rintro e wq ⟨rfl,rfl⟩)
       |(go_at_call 51;refine(HTK _ ?_).mono ?_;rfl;rintro e wq ⟨rfl,rfl⟩))
     obtain⟨nM,yJ,sk,OT⟩:=H3.out;have Ro:wr.heap.size≤bg:=(by have:=H1.out.2.2;omega);go_wp2_with fail
     go_meet;obtain⟨oa,oc,b1,d1,b2,d2,b3,d3,b4,d4,Ra⟩:=ag6.out;refine⟨rfl,ag ⟨oa,oc,b1,d1,b2,d2,b3,d3,b4,d4,?_,((yJ.setCell Ro _).setCell Ro _).drew,fun W hW=>?_⟩⟩
     ·have:=heap_setCell_same _ bg 4 _ 100 (.bool (token S.ax j)) (heap_setCell_same _ bg 3 _ 100 (I (bU S.ax j)) nM);rw[Ra]at this;exact this
     have hr:=H2.out.2.2.1 (bU S.ax j) (token S.ax j) W;rw[Ra]at hr;refine hr fun b h1 h2=>?_
     have h3:w1.heap.size=wr.heap.size+1:=HW1.out;have h4:=H1.out.2.2;have cM:b≠bg:=oX;rw[hW b oX (by simpa[World.setCell,OT]using h2)];show((w3.setCell _ _).setCell _ _).heap[b]?=_;rw[fQ _ _ _ _ (by simpa using cM),fQ _ _ _ _ (by simpa using cM)];exact sk b cM
    case rest=>
     obtain⟨rfl,HC⟩:=hcut;obtain⟨oa,oc,b1,d1,b2,d2,b3,d3,b4,d4,q1,q4,q5⟩:=HC.out;obtain⟨As,Vs,Ds,l1,l2,l3,l4,hl⟩:=HL.out;have pJ:=hl.more q4 (Q:=yQ S ls sa ma da xa (As++[[.slice oa x.ops.length oc,I x.at_,I x.ae,I (bU S.ax j),B (token S.ax j),I x.call,B x.bk,I x.aN,I x.bY,I x.br,I x.t,I x.bJ,I x.point,I x.bF,I x.fire,I x.res.aJ,I x.res.case,I x.res.v,B x.res.ok,I x.res.n,.slice b1 x.aH.length d1,.slice b2 x.aq.length d2,.slice b3 x.bA.length d3,.slice b4 x.wakes.length d4,I x.k]]) Vs Ds) (fun W hW hP=>hP.Oz (by rw[l1];exact HX) (by rw[l1];exact q5 W hW));have av1:=pJ.cell 3 _ rfl;have nv:=ag (pJ.Zm (by rw[yO As l2,l1]));have ag7:Hid (wA.heap.size≤wc.heap.size):=pJ.lo.2;have H4:=ag (dO q1 q4);have H5:=ag (dO l1 (dO l2 (dO l3 (dO l4 pJ))));clear q1 q4 q5 l1 l2 l3 l4 hl pJ HC pI HTK HKC ag5 H2 H1 H3 y3 y4 yf3 yf4 c4 HL;go_upto_region 7 with fail
     repeat(fail_if_success (refine wpList_load_mid rfl 100 (.tmp 5) rfl bg 0 rfl #[.slice oa x.ops.length oc,I x.at_,I x.ae,I (bU S.ax j),B (token S.ax j),I x.call,B x.bk,I x.aN,I x.bY,I x.br,I x.t,I x.bJ,I x.point,I x.bF,I x.fire,I x.res.aJ,I x.res.case,I x.res.v,B x.res.ok,I x.res.n,.slice b1 x.aH.length d1,.slice b2 x.aq.length d2,.slice b3 x.bA.length d3,.slice b4 x.wakes.length d4,I x.k] ?_ ?_ ?_ ?_));go_step
     refine wpList_load_mid rfl 100 (.tmp 5) rfl bg 0 rfl #[.slice oa x.ops.length oc,I x.at_,I x.ae,I (bU S.ax j),B (token S.ax j),I x.call,B x.bk,I x.aN,I x.bY,I x.br,I x.t,I x.bJ,I x.point,I x.bF,I x.fire,I x.res.aJ,I x.res.case,I x.res.v,B x.res.ok,I x.res.n,.slice b1 x.aH.length d1,.slice b2 x.aq.length d2,.slice b3 x.bA.length d3,.slice b4 x.wakes.length d4,I x.k] (fun q v hq=>by rw[Nat.zero_add,cr _ _ _ _ _ _ H4.out.1];exact hq) mC fE ?_;go_wp2_with (at_builtin;go_loud (refine gY (us:=#[.slice oa x.ops.length oc,I x.at_,I x.ae,I (bU S.ax j),B (token S.ax j),I x.call,B x.bk,I x.aN,I x.bY,I x.br,I x.t,I x.bJ,I x.point,I x.bF,I x.fire,I x.res.aJ,I x.res.case,I x.res.v,B x.res.ok,I x.res.n,.slice b1 x.aH.length d1,.slice b2 x.aq.length d2,.slice b3 x.bA.length d3,.slice b4 x.wakes.length d4,I x.k]) (w2:=wc) rfl (.tmp 74) (.tmp 76) 35 rfl underlying35 gi RO RP RQ rfl dX dX rfl rfl bi9 (.slice ga j gc) j _ rfl nv wc.heap.size rfl rfl oX ag7 ?_);intro lg lcp w6 Ak hgr gp;have Xh:(wc.alloc (.cells #[.slice oa x.ops.length oc,I x.at_,I x.ae,I (bU S.ax j),B (token S.ax j),I x.call,B x.bk,I x.aN,I x.bY,I x.br,I x.t,I x.bJ,I x.point,I x.bF,I x.fire,I x.res.aJ,I x.res.case,I x.res.v,B x.res.ok,I x.res.n,.slice b1 x.aH.length d1,.slice b2 x.aq.length d2,.slice b3 x.bA.length d3,.slice b4 x.wakes.length d4,I x.k] 100)).grownBy w6 (Value.slice ga j gc).ownBlock:=hgr;have hl6:=ag (H5.out.2.2.2.2.alloc (.cells #[.slice oa x.ops.length oc,I x.at_,I x.ae,I (bU S.ax j),B (token S.ax j),I x.call,B x.bk,I x.aN,I x.bY,I x.br,I x.t,I x.bJ,I x.point,I x.bF,I x.fire,I x.res.aJ,I x.res.case,I x.res.v,B x.res.ok,I x.res.n,.slice b1 x.aH.length d1,.slice b2 x.aq.length d2,.slice b3 x.bA.length d3,.slice b4 x.wakes.length d4,I x.k] 100));have tl:=hl6.out.al6 Xh;have b36:w6.cell? ⟨bx,3,none⟩=some (.slice ga j gc):=((kZ tl).trans (hl6.out.cell 3 _ rfl));have f36:w6.frozen? ⟨bx,3,none⟩=false:=((xp tl).trans (hl6.out.frozen 3));have H6:=ag (dO Ak (dO Xh gp));clear Ak hgr Xh gp tl);have RT:=hl6.out.Oz H6.out.2.1 H6.out.1 H6.out.2.2;obtain⟨w7,Q7⟩:=dC (w6.setCell ⟨bx,3,none⟩ (.slice (some ⟨lg,0,none⟩) (j+1) lcp));rw[←Q7]at RT ⊢
     have H7:Hid (∃As Vs Ds,As.length=j+1∧(∀A∈As,A.length=25)∧Vs.length=j∧Ds.length=0∧mw wA w7 S bx (.slice sa S.ah.length sc) (.slice ma S.Eg.aK.length mc) (.slice da S.draws.length dc) (.slice xa S.done.length xc) (j+1) j 0 (.slice (some ⟨lg,0,none⟩) (j+1) lcp) (.slice ca j cc) (.slice none 0 0) As.flatten Vs Ds.flatten (yQ S ls sa ma da xa As Vs Ds)):=
      ⟨As++[[.slice oa x.ops.length oc,I x.at_,I x.ae,I (bU S.ax j),B (token S.ax j),I x.call,B x.bk,I x.aN,I x.bY,I x.br,I x.t,I x.bJ,I x.point,I x.bF,I x.fire,I x.res.aJ,I x.res.case,I x.res.v,B x.res.ok,I x.res.n,.slice b1 x.aH.length d1,.slice b2 x.aq.length d2,.slice b3 x.bA.length d3,.slice b4 x.wakes.length d4,I x.k]],Vs,Ds,by rw[py,H5.out.1];rfl,fun A hA=>by
       rcases List.mem_append.1 hA with h|h
       ·exact H5.out.2.1 A h
       ·rw[List.mem_singleton]at h;rw[h];rfl,H5.out.2.2.1,H5.out.2.2.2.1,by rw[List.flatten_append,List.flatten_singleton];exact RT⟩
     clear RT H4 H5 H6 hl6 av1 b36 f36 nv ag7 ag6 Q7;obtain⟨As,Vs,Ds,l1,l2,l3,l4,RT⟩:=H7.out;obtain⟨c,hc⟩:∃c,S.Eg.aC[j]?=some c:=⟨_,fv (by rw[vD.out.aC,←HN.out];exact dD)⟩;have Rb:=vD.out.cache j c hc;obtain⟨n,hn⟩:=dC (c.length);have R7:=HR.out.below RT.lo.1;have Lj:=R7.tf;have t6:=RT.cell 6 _ rfl;have Mw:=ag (dO l1 (dO l2 (dO l3 (dO l4 RT))));have Yn:=ag (dO hc (dO Rb hn));have Kz:=ag (fun(ops:Array Oper) (o:Oper) (ac:Act) (K:Act→World→Prop) (Q:Exit→Act→World→Prop) (E:Prop) (W:World) (nX:o.guard=none) (ho:o.op=.call {callee:=.value (.func 52),args:=#[.tmp 84,.tmp 85],argTypes:=#[91,3]}) (ha:(#[.tmp 84,.tmp 85]:Array Operand).map ac.eval=#[.pointer (some ⟨F.Eg,0,none⟩),I j]) (hB:Below w7.heap.size w7 W) (hK:∀a cp w1,gC w1 a n (c.map I)→Below w7.heap.size w7 w1→(∀b off,a=some ⟨b,off,none⟩→w7.heap.size≤b)→K (ac.put o.dst (.slice a n cp)) w1)=>wy (P:=prog) (ops:=ops) (o:=o) (a:=ac) (w:=W) (K:=K) (Q:=Q) (E:=E) nX 52 _ _ ho (fun args=>OC args W) _ ha _ (EW (R7.below hB) j c Yn.out.1 Yn.out.2.1 (by have:=vD.out.gs;rw[vD.out.aC];omega)) (fun e w' h=>by obtain⟨a,cp,he,h1,h2,h3⟩:=h;refine⟨.slice a n cp,by rw[Yn.out.2.2];exact he,hK a cp w' (by rw[Yn.out.2.2];exact h1) (hB.trans (h2.mono hB.size)) fun b off e2=>jm hB.size (h3 b off e2).1⟩));clear R7 l1 l2 l3 l4 RT hc Rb hn c3 c4 Fq
     go_region_law (first
      |(refine Kz _ _ _ _ _ _ _ rfl rfl bj0 (by first|exact fp _ _|exact(fp _ _).drew) ?_;intro a cp w8 mj hb8 BZ;have Er:=Mw.out.2.2.2.2.eC hb8;have t6:=Er.cell 6 _ rfl;have HO8:=ag (Er.Zn Mw.out.2.2.1);have PY:wA.heap.size≤w8.heap.size:=Er.lo.2;have WS:=Er.VY;have H8:=ag (dO mj (dO hb8 BZ));clear Er mj hb8 BZ)
      |(refine jN (us:=#[.slice a n cp]) (w2:=w8) rfl (.tmp 80) (.tmp 87) 38 rfl Zr vi vz0 vz1 vz2 rfl dX dX rfl rfl bi9 (.slice ca j cc) j _ rfl HO8 rfl oX PY ?_;intro gg cap w9 jl bX bE;have kz:(w8.alloc (.cells #[.slice a n cp] 28)).grownBy w9 (Value.slice ca j cc).ownBlock:=xb bX rfl rfl rfl rfl;have F6:=(Mw.out.2.2.2.2.eC H8.out.2.1).alloc (.cells #[.slice a n cp] 28);have tl:=F6.al7 kz;have t69:w9.cell? ⟨bx,6,none⟩=some (.slice ca j cc):=((kZ tl).trans (F6.cell 6 _ rfl));have f69:w9.frozen? ⟨bx,6,none⟩=false:=((xp tl).trans (F6.frozen 6));have H9:=ag (dO jl (dO kz bE));clear jl bX bE kz F6 tl))
     all_goals
      have HN9:Hid (∃As Vs Ds,As.length=j+1∧(∀A∈As,A.length=25)∧Vs.length=j+1∧Ds.length=0∧mw wA (w9.setCell ⟨bx,6,none⟩ (.slice (some ⟨gg,0,none⟩) (j+1) cap)) S bx (.slice sa S.ah.length sc) (.slice ma S.Eg.aK.length mc) (.slice da S.draws.length dc) (.slice xa S.done.length xc) (j+1) (j+1) 0 (.slice (some ⟨lg,0,none⟩) (j+1) lcp) (.slice (some ⟨gg,0,none⟩) (j+1) cap) (.slice none 0 0) As.flatten Vs Ds.flatten (yQ S ls sa ma da xa As Vs Ds)):=(by obtain⟨l1,l2,l3,l4,RT⟩:=Mw.out;obtain⟨mj,hb8,BZ⟩:=H8.out;obtain⟨jl,kz,bE⟩:=H9.out;obtain⟨hc,_,hn⟩:=Yn.out;subst hn;have Er:=RT.more hb8 (Q:=yQ S ls sa ma da xa As (Vs++[.slice a c.length cp]) Ds) (fun W hW hP=>hP.OA (by rw[l3];exact hc) (mj.nz hW BZ));exact⟨As,_,Ds,l1,l2,by rw[py,l3];rfl,l4,(Er.alloc (.cells #[.slice a c.length cp] 28)).OA kz jl bE⟩);clear H9 H8 Mw Yn Kz HO8 t69 f69 t6 PY WS;go_wp2;go_roundw
      case rel=>exact⟨j+1,_,_,_,_,bl2,oX,HN9⟩
      case measure=>simp[intOf];omega
   ·obtain rfl:j=N:=by omega
    obtain⟨rg,Mu⟩:∃n,n=S.au.length:=⟨_,rfl⟩;have WQ:rg≤8:=(by rw[Mu];exact vD.out.au);have WO:=ag Mu;obtain⟨ra,rcp,Yo,_⟩:=HR.out.Ib (r:=.au) (n:=S.au.length) (fun h=>by simp only[aj]at h;rw[List.map_eq_nil_iff,List.range_eq_nil]at h;exact h);have HRA:=ag Yo;have nU:Hid (∀W,Below wA.heap.size wA W→W.cell? ⟨F.al,5,none⟩=some (.slice ra rg rcp)):=fun W hb=>by have:=(HR.out.below hb).qx;rw[HRA.out,←WO.out]at this;exact this
    have c5:=nU.out _ xH.out.1;have h0:Hid (∃As Vs Ds,As.length=j∧(∀A∈As,A.length=25)∧Vs.length=j∧Ds.length=0∧(∀D∈Ds,D.length=6)∧mw wA wr S bx (.slice sa S.ah.length sc) (.slice ma S.Eg.aK.length mc) (.slice da S.draws.length dc) (.slice xa S.done.length xc) j j 0 (.slice ga j gc) (.slice ca j cc) (.slice none 0 0) As.flatten Vs Ds.flatten (yQ S ls sa ma da xa As Vs Ds)):=(by obtain⟨As,Vs,Ds,l1,l2,l3,l4,hl⟩:=HL.out;exact⟨As,Vs,Ds,l1,l2,l3,l4,(fun D hD=>by rw[xn l4]at hD;cases hD),hl⟩);clear Mu Yo c3 c4 Fq HG HL;go_wp2_with fail
    go_loopw [96] (fun i wr=>∃(k:Nat) (ha:Option Addr) (hc:Nat),i=.int .i64 k∧k≤rg∧(k=0→ha=none∧hc=0)∧Hid (∃As Vs Ds,As.length=j∧(∀A∈As,A.length=25)∧Vs.length=j∧Ds.length=k∧(∀D∈Ds,D.length=6)∧mw wA wr S bx (.slice sa S.ah.length sc) (.slice ma S.Eg.aK.length mc) (.slice da S.draws.length dc) (.slice xa S.done.length xc) j j k (.slice ga j gc) (.slice ca j cc) (.slice ha k hc) As.flatten Vs Ds.flatten (yQ S ls sa ma da xa As Vs Ds))) (fun i _=>rg-(intOf i).toNat)
    case atStart=>exact⟨0,none,0,rfl,oX,(fun _=>⟨rfl,rfl⟩),h0⟩
    case round=>
     clear h0 xH c5;obtain⟨k,ha,hc,rfl,hk,h00,HL⟩:=hrel;have H00:=ag h00;clear h00;have xH:Hid (Below wA.heap.size wA wr∧wA.heap.size≤wr.heap.size):=(by obtain⟨As,Vs,Ds,_,_,_,_,_,hl⟩:=HL.out;exact hl.lo);by_cases dD:k<rg
     ·obtain⟨r,hr⟩:∃r,S.au[k]?=some r:=⟨_,fv (by rw[←WO.out];exact dD)⟩;have RW:=HR.out.below xH.out.1;obtain⟨rr,rb,pL,fA,c5,crb⟩:=RW.iJ hr;have Yo:ra=some ⟨rr,0,none⟩:=(by have:=nU.out _ xH.out.1;rw[c5]at this;simp only[oZ,Value.slice.injEq]at this;exact this.1.symm);subst Yo;go_upto_region 13 with fail
      refine PV (aJ:=_) kX HR vD xH hr fA WO dD HL _ _ _ _ _ _ _ _ _ _ _ _ _ _ _ _ _ _ _ _ _ _ _ _ _ _ _ _ _ _ _ _ _ _ _ _ _ _ _ _ _ _ _ _ _ _ _ _ _ _ _ _ _ _ _ _ _ _ _ _ _ _ _ _ _ _ _ _ _ _ _ _ _ _ _ _ _ _ _ _ _ _ _ _ _ _ _ _ _ _ _ _ _ _ _ _ _ _ _ _ _ _ _ _ _ _ _ _ _ _ _ _ _ _ _ _ _ _ _ _ _ _ _ _ _ _ _ _ _ _ _ _ _ _ _ _ _ _ ?_;intro PW ab0 ab1 ab2 ab3 ab4 ab5 ab6 ab7 ab8 ab9 ac0 ac1 ac2 ac3 ac4 ac5 ac6 ac7 ac8 ac9 ad0 ad1 ad2 ad3 ad4 ad5 ad6 ad7 ad8 ad9 ae0 ae1 ae2 ae3 ae4 ae5 ae6 ae7 w9 gg cap HN9;go_wp2;go_roundw
      case rel=>exact⟨k+1,_,_,bl2,oX,(fun h=>oX),HN9⟩
      case measure=>simp[intOf];omega
     ·obtain rfl:k=rg:=by omega
      obtain⟨As,Vs,Ds,l1,l2,l3,l4,l5,hl⟩:=HL.out;have wH:Hid (∀q v,(#[I S.dV,I S.eT,I S.av,.slice ga j gc,.slice ha k hc,.slice sa S.ah.length sc,.slice ca j cc,.slice ma S.Eg.aK.length mc,I S.Eg.cO,.slice da S.draws.length dc,I S.drawn,.slice xa S.done.length xc]:Array Value)[q]?=some v→wr.cell? ⟨bx,0+q,none⟩=some v):=fun q v hv=>by rw[Nat.zero_add];exact hl.cell q v (by simpa[Oy]using hv)
      have vY:wr.heap[rs]?=some (.cells qG 41 (0,0)):=(xH.out.1.block rs (by have:=D4.out.2.2.1;omega)).trans D4.out.1;have ZW:=ag vY;have HX:=ag (dO l1 (dO l2 (dO l3 (dO l4 (dO l5 hl)))));clear l1 l2 l3 l4 l5 hl vY HL;go_upto_region 15 with fail
      refine wp_region_lit ?_;refine wpList_load_mid rfl 41 (.tmp 3) rfl bx 0 rfl #[I S.dV,I S.eT,I S.av,.slice ga j gc,.slice ha k hc,.slice sa S.ah.length sc,.slice ca j cc,.slice ma S.Eg.aK.length mc,I S.Eg.cO,.slice da S.draws.length dc,I S.drawn,.slice xa S.done.length xc] wH uV jB ?_;refine cB rfl 41 (.tmp 2) (.tmp 141) rfl rs 0 #[I S.dV,I S.eT,I S.av,.slice ga j gc,.slice ha k hc,.slice sa S.ah.length sc,.slice ca j cc,.slice ma S.Eg.aK.length mc,I S.Eg.cO,.slice da S.draws.length dc,I S.drawn,.slice xa S.done.length xc] rfl rfl jB (fun q hq=>by rw[Nat.zero_add,cr _ _ _ _ _ _ ZW.out,xL (show q<qG.size from hq)];rfl) (fun q hq=>iM _ _ _ _ _ ZW) bi9 ?_;go_wp2;have iw:=dI (cs:=#[I S.dV,I S.eT,I S.av,.slice ga j gc,.slice ha k hc,.slice sa S.ah.length sc,.slice ca j cc,.slice ma S.Eg.aK.length mc,I S.Eg.cO,.slice da S.draws.length dc,I S.drawn,.slice xa S.done.length xc]) ZW rfl;refine bodyPost_ret (lN rfl _ _ rs #[I S.dV,I S.eT,I S.av,.slice ga j gc,.slice ha k hc,.slice sa S.ah.length sc,.slice ca j cc,.slice ma S.Eg.aK.length mc,I S.Eg.cO,.slice da S.draws.length dc,I S.drawn,.slice xa S.done.length xc] 41 (0,0) uV jB rfl iw) rfl ?_;obtain⟨l1,l2,l3,l4,l5,hl⟩:=HX.out;have hj:=HN.out;have jO:=WO.out;subst hj;subst jO;have aB6:rs+1=wA.heap.size:=D4.out.2.2.1.symm;have key:∀W,lO w.heap.size (wr.setCells rs 0 (#[I S.dV,I S.eT,I S.av,.slice ga S.gs.length gc,.slice ha S.au.length hc,.slice sa S.ah.length sc,.slice ca S.gs.length cc,.slice ma S.Eg.aK.length mc,I S.Eg.cO,.slice da S.draws.length dc,I S.drawn,.slice xa S.done.length xc]:Array Value).toList) W→lO wA.heap.size wr W:=fun W hW b h1 h2=>by rw[hW b (by have:=D4.out.2.1;omega) (by rw[j9];exact h2),iq oX]
      refine⟨sa,sc,ma,mc,da,dc,xa,xc,ga,gc,ca,cc,ha,hc,As,Vs,Ds,rfl,⟨l1,l2,l3,l4,l5,?_,fun W hW=>?_,fun W hW=>?_,fun W hW=>?_,fun W hW=>?_⟩,H00⟩
      ·exact Below.setCells (by rw[D4.out.2.1];exact Nat.le_refl _) _ _ _ (D4.out.2.2.2.trans (xH.out.1.mono (by have:=D4.out.2.1;omega)))
      ·have h:=hl.Zm (by rw[yO As l2,l1]);exact bc9
      ·have h:=hl.Zn l3;exact bc9
      ·have h:=hl.Zo (by rw[yO Ds l5,l4]);exact bc9
      ·obtain⟨aV,cap,ct,H⟩:=hl;exact H.off W fun b h1 h2 _=>key W hW b h1 h2
end
end Go.Proofs.YtadifmnmfnihdaaGreat
