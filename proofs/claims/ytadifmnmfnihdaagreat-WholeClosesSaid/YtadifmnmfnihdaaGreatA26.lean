import Derived.Test.YtadifmnmfnihdaaGreatA24
import Derived.Test.YtadifmnmfnihdaaGreatA25
set_option linter.all false
set_option maxRecDepth 100000
set_option maxHeartbeats 40000000
namespace Go.Proofs.YtadifmnmfnihdaaGreat
open Go.RowKit Mach Go.Proofs.Tryz
theorem xh(p:List (List cu))(n:Nat)(hn:n=p.length)(a:Option Addr)(ca:Nat)(w:World)(h1:aH1 w a p)(hp:im p=true):Calls prog 77 #[.slice a n ca] w (oV (Below w.heap.size w)):=by
 unfold im at hp;simp only[qs,decide_eq_true_eq,List.all_eq_true]at hp;obtain⟨⟨U8,XR⟩,U3⟩:=hp;rw[←hn]at XR U3;have HPP:Hid (∀l∈p,(∀o∈l,yF o=true)∧l.length≤16):=U8;have Hn:=ag hn;clear hn U8;have H1:=ag h1;clear h1;go_enter func77,ntmps77;go_wp2;go_loopw [17] (fun i wr=>∃j:Nat,i=.int .i64 j∧j≤n∧Hid (Below w.heap.size w wr)) (fun i _=>n-(intOf i).toNat)
 case atStart=>exact⟨0,rfl,oX,fp _ _⟩
 case round=>
  obtain⟨j,rfl,hj,HB⟩:=hrel;by_cases dD:j<n
  ·obtain⟨os,No⟩:∃os,p[j]?=some os:=⟨_,fv bk8⟩;obtain⟨b1,o1,r1,c1,rfl,oF,rS⟩:=H1.out.2 j os No;have oF:=cw HB cG _ _ oF;obtain⟨m,hm⟩:=dC (os.length);rw[←hm]at oF;have VF:m≤16:=by rw[hm];exact(HPP os (lf No)).2
   have HG:Hid (∀o∈os,IV o):=fun o ho=>WE ((HPP os (lf No)).1 o ho)
   obtain⟨HO,HM⟩:=dA rS hm;have BK:=HB;clear rS hm No;go_wp2;go_loopw [26] (fun i VC=>∃k:Nat,i=.int .i64 k∧k≤m∧Hid (Below w.heap.size w VC)) (fun i _=>m-(intOf i).toNat)
   case atStart=>exact⟨0,rfl,oX,BK⟩
   case round=>
    clear HB BK oF;obtain⟨k,rfl,hk,HB⟩:=hrel;by_cases rT:k<m
    ·obtain⟨o,ho⟩:∃o,os[k]?=some o:=⟨_,fv bn2⟩;obtain⟨b2,o2,x,cx,rfl,e0,e1,e2,e3,e4,e5,fa,_⟩:=(HO.out.below HB cG).2 k o ho;have HOG:=ag (HG.out o (lf ho));have hs:=HB.out.size;have HW:Hid (∀ob,Calls prog 135 #[.agg #[I o.ai,I o.ch,I o.n,I o.v,.slice x o.cases.length cx,B o.dG]] (wr.alloc ob) fun e w'=>e=.returned (.bool true)∧Below w.heap.size w w'):=fun ob=>by have G5:=(fp wr.heap.size wr).alloc cG ob;refine(Ba o HOG x cx (wr.alloc ob) (fa.below G5 cG)).mono ?_;rintro e w' ⟨he,hb⟩;exact⟨he,(HB.out.trans (G5.mono hs)).trans (hb.mono bi8)⟩
     obtain⟨ok,oc,on,ov,ocs,oe⟩:=o;simp only at e0 e1 e2 e3 e4 e5 HW;obtain⟨q,hq⟩:=dC (ocs.length);rw[←hq]at e4 HW;clear fa ho HOG hq;go_wp2_with (go_at_call 135;refine(HW _).mono ?_;rintro e w2 ⟨rfl,hb⟩;have mq:=ag hb;clear hb);go_roundw
     case rel=>exact⟨k+1,bl2,oX,mq⟩
     case measure=>simp[intOf];omega
    ·obtain rfl:k=m:=by omega
     go_wp2;go_roundw
     case rel=>exact⟨j+1,bl2,oX,HB⟩
     case measure=>simp[intOf];omega
  ·obtain rfl:j=n:=by omega
   go_wp2;go_ret;exact⟨rfl,HB⟩
theorem cN.Xb{κ:Type}{lo uw:Nat}{w0 w0' w:World}{aV:κ→Option Nat}{ty:κ→Option (Nat×Nat)}{cap:κ→Nat}{c:κ→List Value}(H:cN lo w0 w aV ty cap c)(hb:Below uw w0' w)(hl:uw≤lo):cN uw w0' w aV ty cap c:=
 ⟨hb,jm hl H.tL,H.inj,fun k b h=>⟨jm hl (H.lies k b h).1,(H.lies k b h).2⟩,H.none_⟩
theorem cN.others{κ:Type}{lo:Nat}{w0:World}{aV:κ→Option Nat}{ty:κ→Option (Nat×Nat)}{cap:κ→Nat}{c:κ→List Value}{b:Nat}(hn:∀k,aV k≠some b)(h0:lo≤b):∀(vs:List Value) (j:Nat) (w:World),cN lo w0 w aV ty cap c→cN lo w0 (w.setCells b j vs) aV ty cap c
 | [],_,_,H=>H
 |v::vs,j,w,H=>cN.others hn h0 vs (j+1) _ (H.other (a:=⟨b,j,none⟩) hn h0 v)
structure JD(w w':World)(os:List cu)(aV:CK→Option Nat)(cap:CK→Nat)(c:CK→List Value):Prop where
 own:cN w.heap.size w w' aV Nl cap c
 row:c (some (.ops 0))=bT (J6 aV cap 0) 0 os
 cs:∀(q:Nat) o,os[q]?=some o→c (some (.cases 0 q))=bT fT 0 o.cases
 less:∀(q:Nat),os[q]?=none→aV (some (.cases 0 q))=none
theorem Cq(b:Option Nat)(n c:Nat):∃la ln lc,nG b n c=.slice la ln lc:=by
 unfold nG;split
 ·exact⟨_,_,_,rfl⟩
 ·exact⟨_,_,_,rfl⟩
theorem GK(A:Array Value)(hsz:A.size=25)(Zb:A.all (·.oneCell')=true)(os:List cu)(oa:Option Addr)(oc:Nat)(a0:A[0]?=some (.slice oa os.length oc))(hI:CY os)(r1 r2 r3 r4:Option Addr)(c1 c2 c3 c4:Nat)(a1:A[20]?=some (.slice r1 0 c1))(a2:A[21]?=some (.slice r2 0 c2))(a3:A[22]?=some (.slice r3 0 c3))(a4:A[23]?=some (.slice r4 0 c4))(w:World)(ho:kC w oa os):Calls prog 49 #[.agg A] w fun e w'=>∃aV cap c,e=.returned (.agg (qh A (nG (aV (some (.ops 0))) os.length (cap (some (.ops 0)))) (.slice none 0 0) (.slice none 0 0) (.slice none 0 0) (.slice none 0 0)))∧JD w w' os aV cap c:=by
 obtain⟨i0,hi,fV,gF,gG⟩:=info_parts lC;go_enter func49,ntmps49;go_upto_region 1 with fail
 obtain⟨Z,hZ⟩:∃Z:Array Value,Z=#[Value.slice none 0 0,I 0,I 0,I 0,B false,I 0,B false,I 0,I 0,I 0,I 0,I 0,I 0,I 0,I 0,I 0,I 0,I 0,B false,I 0,Value.slice none 0 0,Value.slice none 0 0,Value.slice none 0 0,Value.slice none 0 0,I 0]:=⟨_,rfl⟩;obtain⟨bx,tl⟩:∃b,b=w.heap.size:=⟨_,rfl⟩;obtain⟨rs,vY⟩:∃b,b=w.heap.size+1:=⟨_,rfl⟩;obtain⟨W0,LI⟩:∃W,W=(w.alloc (.cells A 100)).alloc (.cells Z 100):=⟨_,rfl⟩;have UJ:Z.size=25:=by rw[hZ];rfl
 rw[←hZ,←vY,←tl,←LI];have hs0:W0.heap.size=w.heap.size+2:=by rw[LI];simp
 have C0:CG w W0 bx rs A Z:=by
  exact aY8
 have x0:=C0.cell a0;obtain⟨n,hn⟩:=dC (os.length);have Zc:n≤100:=by rw[hn];exact hI.1
 obtain⟨q,hq⟩:=dC (W0.heap.size);rw[←hn]at x0
 have tP:Hid (Calls prog 83 #[.slice (some ⟨q,0,none⟩) 1 1] (W0.alloc (.cells #[.slice oa n oc] 50)) fun e w'=>∃g cp la ln lc,e=.returned (.slice (some ⟨g,0,none⟩) 1 cp)∧w'.cell? ⟨g,0,none⟩=some (.slice la ln lc)∧Below W0.heap.size W0 w'∧
   ∃aV cap c,.slice la ln lc=nG (aV (some (.ops 0))) n (cap (some (.ops 0)))∧JD w w' os aV cap c∧∀k b,aV k=some b→W0.heap.size≤b):=by
  have jF:aH1 (W0.alloc (.cells #[.slice oa n oc] 50)) (some ⟨q,0,none⟩) [os]:=by
   exact aZ1
  refine(tQ [os] 1 rfl (some ⟨q,0,none⟩) 1 _ jF (BR hI)).mono ?_;rintro e w' ⟨g,cp,aV,cap,c,rfl,hC,h1,h2⟩;obtain⟨la,ln,lc,hm⟩:=Cq (aV (some (.ops 0))) n (cap (some (.ops 0)));have KS:Below W0.heap.size W0 w':=((fp _ _).alloc cG _).trans (hC.own.below.mono sX);have hBw:Below w.heap.size w w':=C0.below.trans (KS.mono oX);refine⟨g,cp,la,ln,lc,rfl,?_,KS,aV,cap,c,hm.symm,⟨hC.own.Xb hBw bi8,hC.rows 0 oX,fun q o h=>hC.rU 0 q o (.inl oX) h,fun q h=>hC.less 0 q h⟩,fun k b h=>?_⟩
  ·rw[←hm];refine hC.own.cell (k:=none) h1 ?_;rw[hC.out,hn];rfl
  ·have:=(hC.own.lies k b h).1;simp at this;omega
 have HC0:=ag C0;have HA:=ag (dO a0 (dO a1 (dO a2 (dO a3 a4))));obtain⟨xW,UK,XF,Ke⟩:=ia hsz UJ Zb hn;have HLO:Hid (bx<W0.heap.size∧rs<W0.heap.size∧w.heap.size≤bx∧w.heap.size≤rs):=⟨oX,oX,oX,oX⟩;clear C0 a0 a1 a2 a3 a4 hsz UJ Zb LI hZ tl vY ho hI hn hs0;go_upto_region 2 with(go_at_call 83;rw[←hq];refine tP.out.mono ?_;rintro e W1 ⟨g,cp,la,ln,lc,rfl,y0,hb,iw⟩;have C1:=HC0.out.call hb;have xf0:=C1.frozen 0;have x0':=C1.cell (j:=0) (v:=.slice oa n oc) (by rw[Ke.out];exact HA.out.1);obtain⟨Sz,D4⟩:=dA C1 iw;clear C1 iw hb)
 obtain⟨P0,SA⟩:∃P,Hid (P=W1.setCell ⟨bx,0,none⟩ (.slice la ln lc)):=⟨_,rfl⟩;have C0:=Sz.out.set 0 (.slice la ln lc);rw[←SA.out]at C0 ⊢;have e20:P0.cell? ⟨bx,20,none⟩=some (.slice r1 0 c1):=C0.cell bw2;have e21:P0.cell? ⟨bx,21,none⟩=some (.slice r2 0 c2):=C0.cell (by rw[ur dX];exact HA.out.2.2.1);have e22:P0.cell? ⟨bx,22,none⟩=some (.slice r3 0 c3):=C0.cell (by rw[ur dX];exact HA.out.2.2.2.1);have e23:P0.cell? ⟨bx,23,none⟩=some (.slice r4 0 c4):=C0.cell (by rw[ur dX];exact HA.out.2.2.2.2);have f20:=C0.frozen 20;have f21:=C0.frozen 21;have f22:=C0.frozen 22;have f23:=C0.frozen 23;have Zd:=ag C0;clear C0 y0 xf0 x0' x0
 go_upto_region 6 with(at_builtin;first
  |refine gO rfl (.const (.slice none 0 0)) (.tmp 11) 28 rfl underlying28 hi rfl _ _ rfl ?_
  |refine gO rfl (.const (.slice none 0 0)) (.tmp 15) 28 rfl underlying28 hi rfl _ _ rfl ?_
  |refine gO rfl (.const (.slice none 0 0)) (.tmp 19) 28 rfl underlying28 hi rfl _ _ rfl ?_
  |refine gO rfl (.const (.slice none 0 0)) (.tmp 23) 28 rfl underlying28 hi rfl _ _ rfl ?_)
 obtain⟨P4,G6⟩:∃P,Hid (P=(((P0.setCell ⟨bx,20,none⟩ (.slice none 0 0)).setCell ⟨bx,21,none⟩ (.slice none 0 0)).setCell ⟨bx,22,none⟩ (.slice none 0 0)).setCell ⟨bx,23,none⟩ (.slice none 0 0)):=⟨_,rfl⟩;rw[←G6.out];have C4:=(((Zd.out.set 20 (.slice none 0 0)).set 21 (.slice none 0 0)).set 22 (.slice none 0 0)).set 23 (.slice none 0 0);rw[←G6.out]at C4;have Ov:=ag C4;clear C4 e20 e21 e22 e23 f20 f21 f22 f23;refine wp_region_lit ?_;refine wpList_load_mid rfl 100 (.tmp 1) rfl bx 0 rfl (qh A (.slice la ln lc) (.slice none 0 0) (.slice none 0 0) (.slice none 0 0) (.slice none 0 0)) (fun j v hv=>by rw[Nat.zero_add];exact Ov.out.cell hv) mC br3 ?_
 refine cB rfl 100 (.tmp 2) (.tmp 26) rfl rs 0 (qh A (.slice la ln lc) (.slice none 0 0) (.slice none 0 0) (.slice none 0 0) (.slice none 0 0)) rfl rfl br3 (fun j hj=>by
   rw[cr _ _ _ _ _ _ Ov.out.res];have:j<25:=by simpa[qh,xW.out]using hj
   rw[Nat.zero_add,xL (by rw[UK.out];exact this)];rfl) (fun j hj=>iM _ _ _ _ _ Ov.out.res) (mR (mR (mR (mR (mR XF rfl) rfl) rfl) rfl) rfl) ?_
 go_wp2;have hsz:(qh A (.slice la ln lc) (.slice none 0 0) (.slice none 0 0) (.slice none 0 0) (.slice none 0 0)).size=25:=by simp[qh,xW.out]
 have iw:=dI (cs:=qh A (.slice la ln lc) (.slice none 0 0) (.slice none 0 0) (.slice none 0 0) (.slice none 0 0)) Ov.out.res (by rw[hsz];exact UK);refine bodyPost_ret (lN rfl _ _ rs _ 100 (0,0) mC (by rw[fE,hsz]) rfl iw) rfl ?_;obtain⟨aV,cap,c,hm,hR,ja⟩:=D4.out;obtain⟨l1,l2,l3,l4⟩:=HLO.out;have cM:∀k,aV k≠some bx:=fun k e=>by have:=ja k bx e;omega
 have xw:∀k,aV k≠some rs:=fun k e=>by have:=ja k rs e;omega
 refine⟨aV,cap,c,by rw[←Ke.out,←hm],?_,hR.row,hR.cs,hR.less⟩;have o0:cN w.heap.size w P0 aV Nl cap c:=by rw[SA.out];exact hR.own.other (a:=⟨bx,0,none⟩) cM l3 _
 have o4:cN w.heap.size w P4 aV Nl cap c:=by rw[G6.out];exact(((o0.other (a:=⟨bx,20,none⟩) cM l3 _).other (a:=⟨bx,21,none⟩) cM l3 _).other (a:=⟨bx,22,none⟩) cM l3 _).other (a:=⟨bx,23,none⟩) cM l3 _
 exact cN.others xw l4 _ _ _ o4
namespace V
section
variable{w w' w2 W:Wd}{ls:List (List Nat)}{g z s C:Nat}{x x' xA y y':bI}{sd sd':gn}{o:cu}{q q':bf}
def aP3(w w':Wd)(g:Nat)(x:bI):Prop:=w'=w∧Blk w x∨aH2 w w' g x
theorem Vm{a:Option Wd}(h:yes a=some (w',true)):a=some w':=by
 unfold yes at h;obtain⟨v,h1,h2⟩:=aH5.1 h
 cases h2;exact h1
section
variable(I:Inv w ls)(J:Inv2 w)(hx:w.gs[g]?=some x)(hs:Na w g)
include I J hx hs
theorem aN7(hk:(aP x).ai=2∨(aP x).ai=4)(h0:x.ae≠0)(h:jq w g=some (w',true)):aP3 w w' g x:=by
 have L:=I.loc g x hx;obtain⟨ho,hR⟩:=pj I hx h0;have pM:=L.kp h0
 have k2:x.ae=10∨x.ae=11∨x.ae=14→(aP x).ai=2:=fun h=>by
  exact bi6
 have k4:x.ae=1∨x.ae=2→(aP x).ai=4:=fun h=>by
  exact be6
 unfold jq at h;simp only[ho,hx,bW,eN]at h;rw[aE oX]at h;by_cases h1:x.ae=1
 ·rw[aF h1]at h;exact .inr (aM5 I J hx (k4 (.inl h1)) h1 (Vm h))
 rw[aE h1]at h;by_cases h2:x.ae=2
 ·rw[aF h2]at h;exact .inr (aL3 I J hx (k4 (.inr h2)) h2 (Vm h))
 rw[aE h2]at h;by_cases h5:x.ae=5
 ·rw[aF h5]at h;exact .inr (aL4 I J hx hk h5 (Vm h))
 rw[aE h5]at h;by_cases h6:x.ae=6
 ·rw[aF h6]at h;simp only[cI]at h;obtain⟨⟨w1,ok⟩,e,h⟩:=h;rcases aM0 I J hx hs oX h6 (.inl rfl) e with⟨rfl,rfl⟩|⟨rfl,t⟩
  ·simp only[nW,dF]at h;exact .inr (aQ8 I J hx oX h6 (Vm h))
  ·simp only[dt]at h
   cases h;exact .inr t
 rw[aE h6]at h;by_cases h7:x.ae=7
 ·rw[aF h7]at h;exact .inr (aP0 I J hx oX h7 (Vm h))
 rw[aE h7]at h;by_cases h8:x.ae=8
 ·rw[aF h8]at h;exact .inr (aM7 I J hx hs hk h8 (Vm h))
 rw[aE h8]at h;by_cases h9:x.ae=9
 ·rw[aF h9]at h;exact .inr (aM6 I J hx hk h9 (Vm h))
 rw[aE h9]at h;by_cases ph:x.ae=10
 ·rw[aF ph]at h;exact .inr (aO8 I J hx (.inl (k2 (.inl ph))) ph (Vm h))
 rw[aE ph]at h;by_cases rA:x.ae=11
 ·rw[aF rA]at h;exact .inr (aL9 I J hx (.inl (k2 (.inr (.inl rA)))) rA (.inl rfl) (Vm h))
 rw[aE rA]at h;by_cases Dp:x.ae=14
 ·rw[aF Dp]at h;have jO:=k2 (.inr (.inr Dp));replace h:=Vm h;unfold lu at h;simp only[hx,bW,eN]at h;exact .inr (aO9 I J hx hs (.inl jO) Dp (fun sd=>bZ (if sd.done then 1 else 3)) (fun sd hd=>⟨fun _=>by rw[hd];rfl,fun h=>oX⟩) h)
 rw[aE Dp]at h;exact aJ0 I J hx hs oX h rfl
theorem aN8(hk:(aP x).ai=3∨(aP x).ai=5)(h0:x.ae≠0)(h:jr w g=some (w',true)):aP3 w w' g x:=by
 have L:=I.loc g x hx;obtain⟨ho,hR⟩:=pj I hx h0;have pM:=L.kp h0
 have k3:x.ae=10∨x.ae=11∨x.ae=14→(aP x).ai=3:=fun h=>by
  exact bi6
 have k5:x.ae=1∨x.ae=2∨x.ae=3→(aP x).ai=5:=fun h=>by
  rcases hk with hk|hk
  ·exact aY3
  ·exact hk
 unfold jr at h;simp only[ho,hx,bW,eN]at h;rw[aE oX]at h;split at h
 ·exact aJ0 I J hx hs oX h rfl
 right;by_cases h1:x.ae=1∨x.ae=2∨x.ae=3
 ·rw[aF h1]at h;exact aM9 I J hx (k5 h1) h1 (Vm h)
 rw[aE h1]at h;by_cases h5:x.ae=5∨x.ae=6∨x.ae=7∨x.ae=8∨x.ae=9
 ·rw[aF h5]at h;replace h:=Vm h;unfold iE at h;simp only[hx,bW,eN]at h;by_cases h5:x.ae=5
  ·rw[aF h5]at h;exact aL5 I J hx hk h5 h
  rw[aE h5]at h;by_cases h6:x.ae=6
  ·rw[aF h6]at h;simp only[cI]at h;obtain⟨⟨w1,ok⟩,e,h⟩:=h;rcases aM0 I J hx hs oX h6 (.inr rfl) e with⟨rfl,rfl⟩|⟨rfl,t⟩
   ·simp only[nW,dF]at h;exact aQ8 I J hx oX h6 h
   ·simp only[dt]at h
    cases h;exact t
  rw[aE h6]at h;by_cases h7:x.ae=7
  ·rw[aF h7]at h;exact aP0 I J hx oX h7 h
  rw[aE h7]at h;by_cases h8:x.ae=8
  ·rw[aF h8]at h;exact aM8 I J hx hs hk h8 h
  rw[aE h8]at h;exact aN0 I J hx hk (show x.ae=9 by omega) h
 rw[aE h5]at h;split at h
 ·rename_i ph;have sk:=k3 ph;replace h:=Vm h;unfold j1 at h;simp only[hx,bW,eN]at h;by_cases WT:x.ae=10
  ·rw[aF WT]at h;exact aO8 I J hx (.inr sk) WT h
  rw[aE WT]at h;by_cases rA:x.ae=11
  ·rw[aF rA]at h;exact aL9 I J hx (.inr sk) rA (.inr rfl) h
  rw[aE rA]at h;exact aO9 I J hx hs (.inr sk) (show x.ae=14 by omega) _ (fun sd hd=>⟨fun h=>oX,fun _=>by simp[hd]⟩) h
 ·cases h
theorem aN9(hk:(aP x).ai=6)(h0:x.ae≠0)(h:js w g=some (w',true)):aP3 w w' g x:=by
 obtain⟨ho,hR⟩:=pj I hx h0;unfold js at h;simp only[ho,hx,bW,eN]at h;rw[aE oX]at h;split at h
 ·exact aJ0 I J hx hs oX h rfl
 right;by_cases h1:x.ae=21
 ·rw[aF h1]at h;exact aQ1 I J hx hk h1 (Vm h)
 rw[aE h1]at h;by_cases h2:x.ae=22
 ·rw[aF h2]at h;exact aR4 I J hx hk h2 (Vm h)
 rw[aE h2]at h;by_cases h3:x.ae=23
 ·rw[aF h3]at h;exact aN1 I J hx hk h3 (Vm h)
 rw[aE h3]at h
 cases h
theorem aK9(hk:(aP x).ai=9)(h0:x.ae≠0)(h:hO w g=some (w',true)):aP3 w w' g x:=by
 obtain⟨ho,hR⟩:=pj I hx h0;unfold hO at h;simp only[ho,hx,bW,eN]at h;rw[aE oX]at h;by_cases hc:x.ae=13∨x.ae=17
 ·rw[aF hc]at h;exact aJ0 I J hx hs (.inr hk) h rfl
 rw[aE hc]at h;by_cases XN:x.ae=24
 ·rw[aF XN]at h;exact aJ7 I J hx hk 24 25 XN (.inl ⟨rfl,rfl⟩) (Vm h)
 rw[aE XN]at h;by_cases h25:x.ae=25
 ·rw[aF h25]at h;exact .inr (aS8 I J hx hs hk h25 (Vm h))
 rw[aE h25]at h;by_cases h26:x.ae=26
 ·rw[aF h26]at h;exact .inr (aR5 I J hx hk h26 (Vm h))
 rw[aE h26]at h;by_cases h27:x.ae=27
 ·rw[aF h27]at h;exact .inr (aN3 I J hx hs hk h27 (Vm h))
 rw[aE h27]at h;by_cases h28:x.ae=28
 ·rw[aF h28]at h;exact .inr (aL6 I J hx hk h28 (Vm h))
 rw[aE h28]at h;by_cases h29:x.ae=29
 ·rw[aF h29]at h;exact .inr (aK8 I J hx hk h29 (Vm h))
 rw[aE h29]at h;by_cases h30:x.ae=30
 ·rw[aF h30]at h;exact .inr (aN4 I J hx hk h30 (Vm h))
 rw[aE h30]at h;by_cases Dp:x.ae=14
 ·rw[aF Dp]at h;exact .inr (aR6 I J hx hs hk Dp (Vm h))
 rw[aE Dp]at h;by_cases h31:x.ae=31
 ·rw[aF h31]at h;exact aJ7 I J hx hk 31 32 h31 (.inr ⟨rfl,rfl⟩) (Vm h)
 rw[aE h31]at h;right;by_cases h32:x.ae=32
 ·rw[aF h32]at h;exact aT0 I J hx hk h32 (Vm h)
 rw[aE h32]at h;by_cases h33:x.ae=33
 ·rw[aF h33]at h;exact aN5 I J hx hk h33 h
 rw[aE h33]at h;by_cases h34:x.ae=34
 ·rw[aF h34]at h;exact aN6 I J hx hk h34 (Vm h)
 rw[aE h34]at h
 cases h
theorem aT2(hd:0≤w.drawn)(Rp:kJ w.drawn=true)(h:uj w g w'):aP3 w w' g x:=by
 rcases h with h|⟨x2,o,kt,hp,ho,h⟩
 ·right;unfold gh at h;simp only[hx,bW,eN]at h;by_cases p0:x.ae=0
  ·rw[aF p0]at h;exact aR8 I J hx hs p0 hd Rp (Vm h)
  rw[aE p0]at h;by_cases yh:x.ae=20
  ·rw[aF yh]at h;exact aU5 I J hx yh (Vm h)
  rw[aE yh]at h;by_cases FB:x.ae=18
  ·rw[aF FB]at h;exact aQ4 I J hx FB (Vm h)
  rw[aE FB]at h
  cases h
 ·rw[hx]at kt;cases kt;obtain⟨Xz,_⟩:=pj I hx hp.1;rw[ho]at Xz;cases Xz;rcases h with⟨hk,h⟩|⟨hk,h⟩|⟨hk,h⟩|⟨hk,h⟩
  ·exact aN7 I J hx hs hk hp.1 h
  ·exact aN8 I J hx hs hk hp.1 h
  ·exact aN9 I J hx hs hk hp.1 h
  ·exact aK9 I J hx hs hk hp.1 h
end
end
section
variable{w w' w2 W S S':Wd}{ls:List (List Nat)}{g z s C:Nat}{x x' xA y y':bI}{sd sd':gn}{o:cu}{q q':bf}
theorem aR0(I:Inv w ls):∀(n c g:Nat) (x:bI),w.gs[g]?=some x→aL x ((c:Int)+1)→w.au.length≤c+n→c<w.au.length→∃g' x',Na w g'∧w.gs[g']?=some x'∧¬Blk w x'
 |0,c,g,x,_,_,h1,h2=>oX
 |n+1,c,g,x,hx,hh,h1,h2=>by
  have L:=I.loc g x hx;by_cases hB:Blk w x
  ·obtain⟨c',h,b1,b2,b3,b4,b5⟩:=hB
   have dD:(c:Int)+1<c':=by
    rcases b5 with⟨hk,hp,_⟩|⟨hk,hp,hi⟩
    ·exact aX hh (wv oX _)
    ·unfold aL at hh;rw[aF hk]at hh;have e:bC x=x.k.toNat:=(by unfold bC;rw[aF oX]);rw[e]at hh;obtain⟨s1,s2,s3⟩:=L.oW hk oX oX oX oX;have kE:=s2.1 hp;unfold idx at hi;rw[aF kE.1]at hi;obtain⟨j,hj,hje⟩:=List.getElem_of_mem hh;rw[tC]at hj;rw[List.getElem_take]at hje;have Xy:=uC hi;obtain⟨FM,hie⟩:=Xy;have:=(List.pairwise_iff_getElem.1 s1.BD) j x.k.toNat oX FM oX;rw[hje,hie]at this;exact this
   have hl:=I.lock (c'-1).toNat h b3;obtain⟨k,rfl⟩:=pz (show 0≤h by omega);have jO:w.gs[k]?=some (w.gs[k]' oX):=fv oX;exact aR0 I n (c'-1).toNat k _ jO ((hl.2.2 k _ jO).2 rfl) oX oX
  ·refine⟨g,x,?_,hx,hB⟩;have hg:=cA hx;obtain⟨⟨s,t⟩,hb⟩:∃p,w.ax[g]?=some p:=⟨_,fv (by rw[I.ax];exact hg)⟩;obtain⟨a1,a2,a3,a4,a5,a6,a7⟩:=I.st g x s t hx hb
   have n1:¬s=1:=fun e=>by
    rcases a4 e with h|h
    ·have:¬aL x ((c:Int)+1):=by
      unfold aL bC cH;split
      ·rw[aE oX,aE oX];simp
      ·omega
     exact this hh
    ·exact wv oX _ hh
   have n2:¬s=2:=fun e=>wv (.inl (a7 e).1) _ hh
   obtain rfl:s=0:=oX
   exact⟨t,hb⟩
theorem aR9(I:Inv w ls)(hs:Na w g):∃g' x',Na w g'∧w.gs[g']?=some x'∧¬Blk w x':=by
 have hg:g<w.gs.length:=by rw[←I.ax];exact aT7 hs
 have hx:w.gs[g]?=some w.gs[g]:=fv hg;by_cases hB:Blk w w.gs[g]
 ·obtain⟨c,h,b1,b2,b3,b4,_⟩:=hB;have hl:=I.lock (c-1).toNat h b3;obtain⟨k,rfl⟩:=pz (show 0≤h by omega);have jO:w.gs[k]?=some (w.gs[k]' oX):=fv oX;exact aR0 I w.au.length (c-1).toNat k _ jO ((hl.2.2 k _ jO).2 rfl) oX oX
 ·exact⟨g,_,hs,hx,hB⟩
theorem Inv2.same(J:Inv2 w)(e1:w'.gs=w.gs)(e2:w'.aO=w.aO)(e3:w'.aw=w.aw)(e4:w'.au=w.au)(e5:w'.ah=w.ah)(e6:w'.done=w.done):Inv2 w':=by
 obtain⟨a,b,c,d⟩:=J;refine⟨fun g x h=>?_,fun g x s z sd y h=>?_,fun c' h=>?_,fun m h=>?_⟩
 ·rw[e1]at h;obtain⟨h1,h2,h3,h4,h5,h6⟩:=a g x h;refine⟨fun c hc=>?_,fun hk hp hc=>?_,h3,?_,fun s hs=>?_,fun c hc=>(aI1 e2 c).2 (h6 c hc)⟩
  ·rw[aI1 e2];exact h1 c hc
  ·rw[e4];exact h2 hk hp ((aI1 e2 _).1 hc)
  ·rw[e2];exact h4
  ·rcases h5 s hs with h|⟨sd,p1,p2,p3⟩
   ·exact .inl h
   ·exact .inr ⟨sd,by rw[e5];exact p1,p2,(aI1 e2 _).2 p3⟩
 ·rw[e1]at h ⊢;rw[e5];exact b g x s z sd y h
 ·rw[e3,e1];exact c c' ((aI1 e2 _).1 h)
 ·rw[e6]at h;have:=d m h;unfold aT3 at this ⊢;rw[e1,e2];exact this
def wkP(p:List (List cu)):Nat:=p.length+(p.map aH7).sum
theorem aS0(p:List (List cu))(N:Nat)(most:Int)(draws:List Int)(r k q):Inv2 {gj p N most draws with au:=r,aO:=List.replicate k false,aq:=q}∧work {gj p N most draws with au:=r,aO:=List.replicate k false,aq:=q}=wkP p:=by
 have gm:∀c,¬idx (List.replicate k false) (c-1)=some true:=fun c h=>by
  unfold idx at h;split at h
  ·cases List.eq_of_mem_replicate (List.mem_of_getElem? h)
  ·cases h
 have hg:∀(g:Nat) x,(gj p N most draws).gs[g]?=some x→∃l,x=jQ l:=fun g x h=>by have h:(p.map jQ)[g]?=some x:=h;rw[na]at h;obtain⟨l,_,rfl⟩:=aH5.1 h;exact⟨l,rfl⟩
 refine⟨⟨fun g x h=>?_,fun g x s z sd y h hc=>?_,fun c h=>aX h (gm c),fun m h=>bk0⟩,?_⟩
 ·obtain⟨l,rfl⟩:=hg g x h;exact⟨fun c h=>aX h (aI2 (by simp[jQ]) c),fun _ h=>bo0,fun h=>aX rfl h,fun h=>aX rfl h,fun s h=>bo0,fun c h=>aX h.1 (by simp[jQ])⟩
 ·obtain⟨l,rfl⟩:=hg g x h;unfold aT jQ at hc;simp at hc
 ·have e1:(gj p N most draws).gs.map Yu=p.map aH7:=by
   show(p.map jQ).map Yu=_;rw[List.map_map];apply List.map_congr_left;intro l _;show Yu (jQ l)=_;unfold Yu jQ;simp
  have e2:Rn (gj p N most draws).ax=p.length:=by show((List.replicate p.length ((0:Int),false)).map fun s=>if s.1=2 then 0 else 1).sum=_;simp
  have e3:Xr (gj p N most draws).aw=0:=by show((List.replicate 16 ({}:Ct)).map fun l=>l.count.toNat).sum=0;decide
  unfold work wkP;rw[e1,e2,e3];omega
end
theorem Ul{S S':Wd}{g:Nat}(h:uj S g S')(ho:∀o,mf S g=some o→o.cases.length≤8)(hs:Sh (S.gs,S.draws)):Sh (S'.gs,S'.draws):=by
 rcases h with h|⟨x,o,_,_,_,h⟩
 ·exact DY ho h hs
 ·rcases h with⟨_,h⟩|⟨_,h⟩|⟨_,h⟩|⟨_,h⟩
  ·exact Gt h hs
  ·exact Gu h hs
  ·exact Gv h hs
  ·exact Bo ho h hs
theorem JM{S:Wd}{ls:List (List Nat)}(I:Inv S ls)(n:Int)(g:Nat):∀o,mf {S with av:=n} g=some o→o.cases.length≤8:=by
 intro o h;unfold mf at h;split at h
 ·cases h;unfold dH;show((S.gs[g]?.bind fun x=>idx x.ops x.at_).getD {}).cases.length≤8
  cases hx:S.gs[g]? with
  |none=>simp
  |some x=>
   simp only[eN];unfold idx;split
   ·cases hi:x.ops[x.at_.toNat]? with
    |none=>simp
    |some o=>
     have:=((I.loc g x hx).ops o (lf hi)).cl;show o.cases.length≤8;omega
   ·simp
 ·cases h
def xK(p:List (List cu))(draws:List Int)(k:Nat)(S:Wd):Prop:=Row p draws k S∧Sh (S.gs,S.draws)∧Inv2 S∧work S≤wkP p
section
variable{S S':Wd}{g k:Nat}{p:List (List cu)}{draws:List Int}
section
variable(R:xK p draws k S)(hd:draws.length≤100000)(hk:k<900000)(hr:bU S.ax g=0)
include R hd hk hr
theorem xK.mn:∃S',uj {S with av:=S.av+1} g S'∧xK p draws (k+1) S'∧(S'={S with av:=S.av+1}∧(∃x,S.gs[g]?=some x∧Blk S x)∨work S'+1≤work S):=by
 obtain⟨S',h1,h2⟩:=R.1.next hd hk hr;obtain⟨ls,I⟩:=R.1.inv;have I1:Inv {S with av:=S.av+1} ls:=I.same rfl rfl rfl rfl rfl rfl rfl rfl;have J1:Inv2 {S with av:=S.av+1}:=R.2.2.1.same rfl rfl rfl rfl rfl rfl
 have hb:g<S.ax.length:=by
  exact bb5
 have hx:S.gs[g]?=some (S.gs[g]'(by rw[←I.ax];exact hb)):=fv _;have cU:=R.1.drawn;have Wx:=Ul h1 (JM I _ g) R.2.1;rcases aT2 I1 J1 hx (SF hr hb) cU.1 (by show kJ S.drawn=true;unfold kJ;simp;omega) h1 with⟨rfl,hB⟩|⟨x',E⟩
 ·exact⟨_,h1,⟨h2,Wx,J1,R.2.2.2⟩,.inl ⟨rfl,_,hx,hB⟩⟩
 ·obtain⟨J',hw⟩:=E.fin I1 J1 hx;have hw:work S'+1≤work S:=hw;exact⟨S',h1,⟨h2,Wx,J',by have:=R.2.2.2;omega⟩,.inr hw⟩
theorem xK.next:∃S',uj {S with av:=S.av+1} g S'∧xK p draws (k+1) S':=by
 obtain⟨S',h1,h2,_⟩:=R.mn hd hk hr;exact⟨S',h1,h2⟩
end
theorem wI(P:z8 p){N:Nat}(hN:N≤64){most:Int}(hm:1≤most∧most≤16)(draws:List Int)(hd:draws.length≤1000):xK p draws 0 (gj p N most draws):=by
 obtain⟨a,b⟩:=aS0 p N most draws [] 0 [];refine⟨GH P hN hm draws,⟨fun x hx=>?_,hd⟩,a,Nat.le_of_eq b⟩;obtain⟨l,_,rfl⟩:=List.mem_map.1 hx;exact jE
theorem Vh(p:List (List cu))(draws:List Int)(hl:draws.length≤100000)(hd:∀v∈draws,0≤v∧v≤65535):T6 900000 (xK p draws):=by
 have G:=au9 p draws hl hd;exact⟨fun k S R=>G.ax k S R.1,fun k S R=>G.av k S R.1,fun k S g R h=>G.who k S g R.1 h,fun k S g R h1 h2=>G.aG k S g R.1 h1 h2⟩
theorem xK.Um(R:xK p draws k S)(hp:∀l∈p,CY l)(hk:k≤900000):∃ls,Go.Proofs.YtadifmnmfnihdaaGreat.tc S ls:=by
 obtain⟨R,hs,_⟩:=R;obtain⟨ls,I⟩:=R.inv;have h8:=I.n8;refine⟨ls,I.JZ,?_,hs.2,by have:=R.len;omega,oX,fun j x hx=>?_,I.Eg.aC,fun j x hx=>?_,I.c8,I.au,I.aO,I.q,I.bM,fun l hl=>?_,by have:=I.aS;have:=I.JZ;omega⟩
 ·have:=I.Eg.ok.ml;omega
 ·have h1:=hs.1 x (lf hx);have ho:x.ops∈p:=by rw[←R.ops];exact List.mem_map.2 ⟨x,lf hx,rfl⟩
  refine⟨hp _ ho,jm h1.1 oX,jm h1.2.1 oX,jm h1.2.2 oX,by have:=GF I hx;omega⟩
 ·have h1:=I.Eg.most x (lf hx);have:=I.Eg.ok.cl x (lf hx);omega
 ·obtain⟨k2,jO⟩:=List.getElem?_of_mem hl;have:=jy 64 l (I.q.nodup k2 l jO) (fun y hy=>by obtain⟨a,b,rfl⟩:=List.append_of_mem hy;have h1:=(uC (I.q.thing k2 a b y jO)).1;have:=I.aS;have:=I.JZ;omega);omega
end
end V
open Go.Maps Go.ChangeMaps
theorem jh.other{w w':World}{b n:Nat}{f:Int→Int}(h:jh w b n f)(hb:w'.heap[b]?=w.heap[b]?):jh w' b n f:=by
 obtain⟨D,⟨es,clock,h1,r⟩,hf⟩:=h;exact⟨D,⟨es,clock,hb.trans h1,r⟩,hf⟩
theorem fH.other{w w':World}{s b1 b2 n1 n2:Nat}{f1 f2:Int→Int}(h:fH w s b1 b2 n1 n2 f1 f2)(h1:w'.heap[s]?=w.heap[s]?)(h2:w'.heap[b1]?=w.heap[b1]?)(h3:w'.heap[b2]?=w.heap[b2]?):fH w' s b1 b2 n1 n2 f1 f2:=
 ⟨h1.trans h.aV,h.m1.other h2,h.m2.other h3,h.Km,h.Nu,h.ne⟩
theorem wJ{w w':World}{B e size n:Nat}{v:Value}{xs:List Value}(h:w.ownsRow B e size v n xs)(hb:∀g,v.ownBlock=some g→w'.heap[g]?=w.heap[g]?):w'.ownsRow B e size v n xs:=by
 refine⟨h.1,?_⟩;rcases h.2 with h1|⟨g,cap,cur,h1,h2,h3,h4⟩
 ·exact .inl h1
 ·exact .inr ⟨g,cap,cur,h1,h2,(hb g (by rw[h1];rfl)).trans h3,h4⟩
theorem Rd.other{w w':World}{b off:Nat}{zs:List Int}(h:Rd .i64 w (some ⟨b,off,none⟩) zs)(hb:w'.heap[b]?=w.heap[b]?):Rd .i64 w' (some ⟨b,off,none⟩) zs:=by
 refine⟨h.1,fun h0=>?_⟩;obtain⟨b',VK,e,hc⟩:=h.2 h0
 cases e;exact⟨b,off,rfl,fun j hj=>by rw[kZ (w:=w) (a:=⟨b,off+j,none⟩) hb];exact hc j hj⟩
def Dv(af:Nat)(F:Fx)(m0:Mem)(w0:World)(eb:Nat)(LE:List (Nat×Obj))(bs:List Nat)(w:World)(S:Wd):Prop:=
 ∃m,jS F eb LE∧AB af F m0 w0 m w S LE∧∀k∈bs,w0.heap.size≤k∧k<w.heap.size∧(∀r,m.aV r≠some k)∧∀p∈LE,p.1≠k
section
variable{af eb:Nat}{F:Fx}{m0:Mem}{w0 w w':World}{bs bs':List Nat}{S S':Wd}{LE:List (Nat×Obj)}
section
variable(D:Dv af F m0 w0 eb LE bs w S)
include D
theorem Dv.call{f:Nat}{args:Array Value}{v:Value}(h:∀m0 w0 m L,AB af F m0 w0 m w S L→jS F eb L→Calls prog f args w fun e w'=>e=.returned v∧TB af F m0 w0 S' L w'):Calls prog f args w fun e w'=>e=.returned v∧Dv af F m0 w0 eb LE bs w' S'∧(∀k∈bs,w'.heap[k]?=w.heap[k]?)∧w.heap.size≤w'.heap.size:=by
 obtain⟨m,h1,h2,h3⟩:=D;have ks:∀k∈bs,∃o,w.heap[k]?=some o:=fun k hk=>⟨_,xL (h3 k hk).2.1⟩
 have hX:AB af F m0 w0 m w S (LE++bs.filterMap fun k=>(w.heap[k]?).map fun o=>(k,o)):=by
  refine⟨h2.at_,fun p hp=>?_⟩;rcases List.mem_append.1 hp with hp|hp
  ·exact h2.loc p hp
  ·obtain⟨k,hk,e⟩:=List.mem_filterMap.1 hp;obtain⟨o,ho,rfl⟩:=aH5.1 e;exact⟨ho,(h3 k hk).2.2.1⟩
 have hE:jS F eb (LE++bs.filterMap fun k=>(w.heap[k]?).map fun o=>(k,o)):=List.mem_append_left _ h1;have hX0:AB af F m w m w S (LE++bs.filterMap fun k=>(w.heap[k]?).map fun o=>(k,o)):=⟨At.refl h2.bj,hX.loc⟩;refine(h m w m _ hX0 hE).mono ?_;rintro e w' ⟨he,m',X0'⟩;have X':=hX.av X0'.at_;have fD:∀k∈bs,∀o,w.heap[k]?=some o→(k,o)∈LE++bs.filterMap fun k=>(w.heap[k]?).map fun o=>(k,o):=fun k hk o ho=>List.mem_append_right _ (List.mem_filterMap.2 ⟨k,hk,by rw[ho];rfl⟩)
 have nV:∀k∈bs,w'.heap[k]?=w.heap[k]?:=fun k hk=>by obtain⟨o,ho⟩:=ks k hk;rw[(X'.loc _ (fD k hk o ho)).1,ho]
 refine⟨he,⟨m',h1,X'.less (fun p hp=>List.mem_append_left _ hp),fun k hk=>?_⟩,nV,?_⟩
 ·obtain⟨o,ho⟩:=ks k hk;refine⟨(h3 k hk).1,?_,(X'.loc _ (fD k hk o ho)).2,(h3 k hk).2.2.2⟩;have:=nV k hk;rw[ho]at this;exact(dh this).1
 ·exact X0'.at_.mv.size
theorem Dv.look:∃m L,jS F eb L∧AB af F m0 w0 m w S L:=by
 obtain⟨m,h1,h2,_⟩:=D;exact⟨m,LE,h1,h2⟩
theorem Dv.tb:TB af F m0 w0 S LE w:=by
 obtain⟨m,h1,h2,_⟩:=D;exact⟨m,h2⟩
theorem Dv.mn(ho:w'.os=w.os)(ht:w'.tape=w.tape)(hu:w'.output=w.output)(hsz:w.heap.size≤w'.heap.size)(hk:∀k,k<w.heap.size→k ∉ bs→w'.heap[k]?=w.heap[k]?)(hb:∀k∈bs',k∈bs∨w.heap.size≤k∧k<w'.heap.size):Dv af F m0 w0 eb LE bs' w' S:=by
 obtain⟨m,h1,h2,h3⟩:=D;have dD:∀p∈LE,p.1<w.heap.size:=fun p hp=>(dh (h2.loc p hp).1).1
 refine⟨m,h1,⟨⟨⟨ho.trans h2.at_.mv.os,ht.trans h2.at_.mv.tape,hu.trans h2.at_.mv.output,jm h2.at_.mv.size hsz,fun b hb hn=>?_,h2.at_.mv.old⟩,h2.bj.heap fun r b hb=>hk b (h2.bj.lt hb) (fun e=>(h3 b e).2.2.1 r hb)⟩,fun p hp=>⟨?_,(h2.loc p hp).2⟩⟩,fun k hkb=>?_⟩
 ·rw[hk b (uB hb h2.at_.mv.size) (fun e=>by have:=(h3 b e).1;omega)];exact h2.at_.mv.keep b hb hn
 ·rw[hk p.1 (dD p hp) (fun e=>(h3 _ e).2.2.2 p hp rfl)];exact(h2.loc p hp).1
 ·rcases hb k hkb with hb|hb
  ·obtain⟨q1,q2,q3,q4⟩:=h3 k hb;exact⟨q1,oX,q3,q4⟩
  ·exact⟨by have:=h2.at_.mv.size;omega,hb.2,fun r e=>aX (h2.bj.lt e) oX,fun p hp e=>by have:=dD p hp;omega⟩
end
end
def qZ(f:Int→Int)(run:List Int)(k:Int)(n:Nat):Int:=if k≤f (qV f (run.getD 0 0) run)+n then qV f (run.getD 0 0) run else pA run 0
structure Re(Q:Nat→Wd→(Int→Int)→Prop)(k:Int)(n most:Nat):Prop where
 ax:∀j S f,Q j S f→S.ax.length≤20
 av:∀j S f,Q j S f→ -1000000000≤S.av∧S.av≤1000000000
 who:∀j S f g,Q j S f→g∈cE S.ax→∃i:Nat,g=i∧bU S.ax g=0
 aG:∀j S f (g:Nat),Q j S f→j<most→bU S.ax g=0→Cp {S with av:=S.av+1} g
 gs:∀j S f,Q j S f→S.gs.length=n
 age:∀j S f,Q j S f→∀g,0≤f g∧f g≤1000000
 next:∀j S f,Q j S f→j<most→cE S.ax≠[]→∀g:Nat,qZ f (cE S.ax) k n=g→∃S',uj {S with av:=S.av+1} g S'∧Q (j+1) S' (iC g (cE S.ax) f)
theorem Xj:(prog.info? 83).map (fun i=>(i.zero,i.size,i.bytes))=some (some (.agg #[I 0,.slice none 0 0]),2,32):=kX
structure Rf(af:Nat)(F:Fx)(m0:Mem)(w0:World)(eb:Nat)(LE:List (Nat×Obj))(Q:Nat→Wd→(Int→Int)→Prop)(w wr:World)(s j:Nat)(la:Option Addr)(lc:Nat)(S:Wd)(f g2:Int→Int)(b1 b2 n1 n2:Nat)(lb:Option Nat)(cs:List Value):Prop where
 q:Q j S f
 Bt:fH wr s b1 b2 n1 n2 f g2
 row:wr.ownsRow w.heap.size 83 2 (.slice la j lc) j cs
 la_:(Value.slice la j lc).ownBlock=lb
 dv:Dv af F m0 w0 eb LE (s::b1::b2::lb.toList) wr S
 le:w.heap.size≤s∧w.heap.size≤b1∧w.heap.size≤b2∧w.heap.size≤wr.heap.size
 ne:∀b,lb=some b→b≠s∧b≠b1∧b≠b2
theorem JN{af eb:Nat}{F:Fx}{m0:Mem}{w0 w:World}{L:List (Nat×Obj)}{S0:Wd}{Q:Nat→Wd→(Int→Int)→Prop}{k:Int}{n most:Nat}(G:Re Q k n most)(T:TB af F m0 w0 S0 L w)(he:jS F eb L)(hQ:Q 0 S0 (fun _=>0))(hk:0≤k∧k≤1000000)(hn:n≤1000)(hm:most≤900000)(pc:Nat):Calls prog 11 #[.pointer (some ⟨eb,0,none⟩),.slice none 0 0,I k,I most] w fun e w'=>∃la j lc S f,Q j S f∧(cE S.ax=[]∨j=most)∧e=.returned (.tuple #[.slice la j lc,.bool (decide (cE S.ax=[]))])∧TB af F m0 w0 S L w':=by
 obtain⟨i0,hi,fV,gF,gG⟩:=info_parts Xj;have HD0:Hid (Dv af F m0 w0 eb L [] w S0):=by obtain⟨m,X⟩:=T;exact⟨m,he,X,fun k h=>bk0⟩
 have HNA:=ag (DU w);obtain⟨HG,HQ⟩:=dA G hQ;clear G hQ;go_enter func11,ntmps11;go_wp2_with (go_at_call 27;refine HNA.out.mono ?_;rintro e w1 ⟨s,b1,b2,rfl,hA,hB,h1,h2,h3⟩;have pI:Hid (∃S f g2 b1 b2 n1 n2 lb cs,Rf af F m0 w0 eb L Q w w1 s 0 none 0 S f g2 b1 b2 n1 n2 lb cs):=⟨S0,_,_,b1,b2,0,0,none,[],HQ,hA,World.ownsRow_nil _ _ _ _,rfl,HD0.out.mn hB.os hB.tape hB.output hB.size (fun k hk _=>hB.block k hk) (fun k hk=>by(simp at hk;rcases hk with rfl|rfl|rfl;exact .inr ⟨h1,hA.lt⟩;exact .inr ⟨h2,hA.m1.lt⟩;exact .inr ⟨h3,hA.m2.lt⟩)),⟨h1,h2,h3,hB.size⟩,fun b h=>bk0⟩;clear hA hB h1 h2 h3);go_loopw [12] (fun l wr=>∃(j:Nat) (la:Option Addr) (lc:Nat),l=.slice la j lc∧j≤most∧Hid (∃S f g2 b1 b2 n1 n2 lb cs,Rf af F m0 w0 eb L Q w wr s j la lc S f g2 b1 b2 n1 n2 lb cs)) (fun l _=>most-(match l with| .slice _ j _=>j|_=>0))
 case atStart=>exact⟨0,none,0,rfl,oX,pI⟩
 case round=>
  clear pI HD0 HNA HQ;obtain⟨j,la,lc,rfl,hj,HS⟩:=hrel;obtain⟨S,f,g2,c1,c2,n1,n2,lb,cs,D⟩:=HS.out;obtain⟨m,L2,hE,X⟩:=D.dv.look;have GQ:=ag (pT X hE (by have:=HG.out.ax j S f D.q;omega));obtain⟨run,ta⟩:=dC (cE S.ax);rw[←ta]at GQ;have HD:=ag D;have RV:=ag ta;clear D X hE HS ta;have hrl:run.length≤20:=by have h1:=HG.out.ax j S f HD.out.q;have h2:=xg S.ax 0;rw[RV.out];unfold cE;omega
  obtain⟨ml,UR⟩:=dC (run.length);rw[←UR]at hrl;have G8:=ag UR;clear UR;by_cases dD:j<most
  ·by_cases tS:run=[]
   ·have av3:ml=0:=(by rw[G8.out,tS];rfl);have Ap:=ag tS;subst av3;go_upto_region 6 with(go_at_call 28;refine GQ.out.mono ?_;rintro e w2 ⟨v,rfl,ho,hb⟩;obtain⟨ra,rc,rfl,jF⟩:=ho.rd (by rw[←G8.out];omega);rw[←G8.out];have mq:=ag hb;clear ho hb jF)
    clear tS;go_wp2;go_ret2;refine⟨la,j,lc,S,f,HD.out.q,.inl (by rw[←RV.out];exact Ap),by rw[←RV.out,Ap.out];rfl,?_⟩;exact(HD.out.dv.mn (bs':=[]) mq.out.os mq.out.tape mq.out.output mq.out.size (fun k hk _=>mq.out.block k hk) (fun k h=>bk0)).tb
   ·have ag9:0<ml:=(by rw[G8.out];exact pd tS);go_upto_region 9 with(go_at_call 28;refine GQ.out.mono ?_;rintro e w2 ⟨v,rfl,ho,hb⟩;obtain⟨ra,rc,rfl,jF⟩:=ho.rd (by rw[←G8.out];omega);rw[←G8.out];obtain⟨mq,HO,CZ⟩:=ij hb ho jF;clear ho hb jF)
    obtain⟨rb,Yo,aB7,aB8⟩:∃rb,ra=some ⟨rb,0,none⟩∧wr.heap.size≤rb∧rb<w2.heap.size:=by
     have ho:=HO.out;unfold yv at ho;rcases ho.2 with⟨_,h0⟩|⟨g,cap,cur,he,hB,hg,_⟩
     ·rw[←G8.out]at h0;omega
     ·simp only[Value.slice.injEq]at he;exact⟨g,he.1,hB,(dh hg).1⟩
    subst Yo;have vz:wr.heap.size≤w2.heap.size:=mq.out.size;go_upto_region 12 with fail
    obtain⟨tb,YM⟩:=dC (w2.heap.size);obtain⟨w3,xY⟩:=dC (w2.alloc (.cells #[I 0,.slice (some ⟨rb,0,none⟩) ml rc] 83));rw[←xY,←YM];have yJ:Below wr.heap.size wr w3:=(by rw[xY];exact mq.out.alloc vz _);have OT:w3.heap.size=tb+1:=(by rw[xY,YM];simp);have xy:w3.heap[tb]?=some (.cells #[I 0,.slice (some ⟨rb,0,none⟩) ml rc] 83 (0,0)):=(by rw[xY,YM];exact dP _ _);have Xk:Rd .i64 w3 (some ⟨rb,0,none⟩) run:=(by rw[xY];exact CZ.out.below ((fp w2.heap.size w2).alloc cG _) cG);have M7:s<wr.heap.size∧c1<wr.heap.size∧c2<wr.heap.size:=⟨HD.out.Bt.lt,HD.out.Bt.m1.lt,HD.out.Bt.m2.lt⟩;have SZ:fH w3 s c1 c2 n1 n2 f g2:=HD.out.Bt.other (yJ.block _ M7.1) (yJ.block _ M7.2.1) (yJ.block _ M7.2.2)
    have hD3:Dv af F m0 w0 eb L (tb::rb::s::c1::c2::lb.toList) w3 S:=HD.out.dv.mn yJ.os yJ.tape yJ.output yJ.size (fun k hk _=>yJ.block k hk) (fun k hk=>by
     simp only[iL]at hk ⊢;rcases hk with h|h|h|h|h|h
     ·right;rw[h];omega
     ·right;rw[h];omega
     ·exact .inl (.inl h)
     ·exact .inl (.inr (.inl h))
     ·exact .inl (.inr (.inr (.inl h)))
     ·exact .inl (.inr (.inr (.inr h))))
    have SX:∀z∈run,(Lit.int .i64 z).wf=true:=fun z hz=>by
     obtain⟨i,rfl,hi⟩:=HG.out.who j S f z HD.out.q (by rw[←RV.out];exact hz);have hb:=HG.out.ax j S f HD.out.q
     have:i<S.ax.length:=by
      rcases Nat.lt_or_ge i S.ax.length with h|h
      ·exact h
      ·unfold bU idx at hi;rw[aF oX]at hi;simp only[oU]at hi;rw[rq h]at hi;simp at hi
     exact WalkArith.wf_i64 oX
    have ah0:=ag (Gg (some ⟨rb,0,none⟩) rc k n w3 G8 hrl ag9 SZ Xk SX (HG.out.age j S f HD.out.q) hk hn);obtain⟨m3,LL,hE3,X3⟩:=hD3.look;have ec:=hE3.cell X3;have eg:=X3.bj.eu;rw[HG.out.gs j S f HD.out.q]at eg;obtain⟨tK,vC,HD3,av4,av5,SY⟩:=mr yJ SZ hD3 Xk xy SX;obtain⟨o,ho⟩:=dC (qV f (run.getD 0 0) run);rw[←ho]at ah0;have Yf:=ag ho;have Yp:Hid (wr.heap.size≤tb∧rb<tb):=⟨oX,oX⟩;clear xY yJ xy Xk SZ hD3 SX X3 hE3 ho YM;have Xw:Hid (∀g:Nat,qZ f run k n=g→∃S',uj {S with av:=S.av+1} g S'∧Q (j+1) S' (iC g run f)):=fun g hg=>by have:=HG.out.next j S f HD.out.q dD (by rw[←RV.out];exact tS) g (by rw[←RV.out];exact hg);rw[←RV.out]at this;exact this
    have ie:Hid (∀g:Nat,bU S.ax g=0→Cp {S with av:=S.av+1} g):=fun g hg=>HG.out.aG j S f g HD.out.q dD hg
    have pI:=ag (HG.out.av j S f HD.out.q);have ah1:Hid (∀g∈run,∃i:Nat,g=i∧bU S.ax g=0):=fun g hg=>HG.out.who j S f g HD.out.q (by rw[←RV.out];exact hg)
    have HBN:=ag (HG.out.ax j S f HD.out.q);go_upto_if 58 with(go_at_call 29;refine ah0.out.mono ?_;rintro e w4 ⟨rfl,hd4⟩;have HD4:=ag hd4;clear hd4)
    have Kk:o∈run:=by
     have h0:run.getD 0 0∈run:=(by rw[yk,fv (by rw[←G8.out];exact ag9)];exact List.getElem_mem _);rw[Yf.out];rcases sw f run (run.getD 0 0)with h|h
     ·rw[h];exact h0
     ·exact h
    obtain⟨d4,xX⟩:=HD4.out;have Nz:w4.heap=w3.heap:=(by rw[xX];rfl);have hD4:Dv af F m0 w0 eb L (tb::rb::s::c1::c2::lb.toList) w4 S:=HD3.out.mn (by rw[xX];rfl) (by rw[xX];rfl) (by rw[xX];rfl) (by rw[Nz];omega) (fun k hk _=>by rw[Nz]) (fun k hk=> .inl hk);have hA4:fH w4 s c1 c2 n1 n2 f g2:=vC.out.other (by rw[Nz]) (by rw[Nz]) (by rw[Nz]);have hR4:Rd .i64 w4 (some ⟨rb,0,none⟩) run:=(by rw[xX];exact av4);have hX4:w4.heap[tb]?=some (.cells #[I 0,.slice (some ⟨rb,0,none⟩) ml rc] 83 (0,0)):=by rw[Nz];exact av5
    have hO4:w4.ownsRow w.heap.size 83 2 (.slice la j lc) j cs:=wJ HD.out.row (fun g hg=>by
     rw[Nz];refine tK.out.block g ?_;rcases HD.out.row.2 with⟨h1,_⟩|⟨g',_,_,h1,_,h2,_⟩
     ·rw[h1]at hg;cases hg
     ·rw[h1]at hg;cases hg;exact(dh h2).1)
    have ht4:w4.cell? ⟨tb,0,none⟩=some (I 0):=(by rw[cr _ _ _ _ _ _ hX4];rfl);have tf4:=iM w4 tb 0 _ _ hX4;have Xl:=ag (dO hD4 (dO hA4 (dO hR4 (dO hX4 hO4))));have hs4:w3.heap.size=w4.heap.size:=(by rw[Nz]);have Zx:=ag Kk;clear xX Nz hD4 hA4 hR4 hX4 hO4 Kk ec eg HD4
    have yV:Hid (∀(wx:World) (g:Nat) (S':Wd),Q (j+1) S' (iC g run f)→Dv af F m0 w0 eb L (tb::rb::s::c1::c2::lb.toList) wx S'→wx.heap[tb]?=some (.cells #[I g,.slice (some ⟨rb,0,none⟩) ml rc] 83 (0,0))→(∀k∈rb::s::c1::c2::lb.toList,wx.heap[k]?=w4.heap[k]?)→w4.heap.size≤wx.heap.size→
      ∃(g:Nat) (S':Wd),Q (j+1) S' (iC g run f)∧Dv af F m0 w0 eb L (tb::rb::s::c1::c2::lb.toList) wx S'∧wx.heap[tb]?=some (.cells #[I g,.slice (some ⟨rb,0,none⟩) ml rc] 83 (0,0))∧fH wx s c1 c2 n1 n2 f g2∧
      Rd .i64 wx (some ⟨rb,0,none⟩) run∧wx.ownsRow w.heap.size 83 2 (.slice la j lc) j cs∧w3.heap.size≤wx.heap.size):=fun wx g S' q1 q2 q3 q4 q5=>by
     obtain⟨z1,z2,z3,z4,z5⟩:=Xl.out;refine⟨g,S',q1,q2,q3,z2.other (q4 _ sX) (q4 _ sX) (q4 _ sX),z3.other (q4 _ sX),wJ z5 (fun g hg=>q4 g ?_),oX⟩;rw[HD.out.la_]at hg;rw[hg];simp
    have ah2:Hid (∀k∈rb::s::c1::c2::lb.toList,k≠tb):=fun k hk=>by
     have h1:=HD.out.Bt.lt;have h2:=HD.out.Bt.m1.lt;have h3:=HD.out.Bt.m2.lt;obtain⟨t1,t2⟩:=Yp.out;simp only[iL]at hk;rcases hk with rfl|rfl|rfl|rfl|h
     ·omega
     ·omega
     ·omega
     ·omega
     ·have jO:lb=some k:=by cases lb with
       |none=>simp at h
       |some b=>simp at h;rw[h]
      have:=HD.out.la_;rw[jO]at this;rcases HD.out.row.2 with⟨h4,_⟩|⟨g',_,_,h4,_,h5,_⟩
      ·rw[h4]at this;cases this
      ·rw[h4]at this;cases this;have:=(dh h5).1;intro e;have e2:g'=tb:=e;omega
    go_cut [16,17]from 21 to 74 (fun u _ wx=>u=I o∧Hid (∃(g:Nat) (S':Wd),Q (j+1) S' (iC g run f)∧Dv af F m0 w0 eb L (tb::rb::s::c1::c2::lb.toList) wx S'∧wx.heap[tb]?=some (.cells #[I g,.slice (some ⟨rb,0,none⟩) ml rc] 83 (0,0))∧fH wx s c1 c2 n1 n2 f g2∧
      Rd .i64 wx (some ⟨rb,0,none⟩) run∧wx.ownsRow w.heap.size 83 2 (.slice la j lc) j cs∧w3.heap.size≤wx.heap.size))
    case first=>
     by_cases eK:k≤f o+n
     ·obtain⟨g,hg,jf⟩:=ah1.out o Zx;obtain⟨S',hd,hq⟩:=Xw.out g (by unfold qZ;rw[←Yf.out,aF eK];exact hg);subst hg;have HQ2:=ag hq;have ES:Hid (Calls prog 30 #[.pointer (some ⟨eb,0,none⟩),I g] (w4.setCell ⟨tb,0,none⟩ (I g)) fun e w'=>e=.returned (.bool true)∧Dv af F m0 w0 eb L (tb::rb::s::c1::c2::lb.toList) w' S'∧(∀k∈tb::rb::s::c1::c2::lb.toList,w'.heap[k]?=(w4.setCell ⟨tb,0,none⟩ (I g)).heap[k]?)∧(w4.setCell ⟨tb,0,none⟩ (I g)).heap.size≤w'.heap.size):=(by have D5:Dv af F m0 w0 eb L (tb::rb::s::c1::c2::lb.toList) (w4.setCell ⟨tb,0,none⟩ (I g)) S:=Xl.out.1.mn rfl rfl rfl bp1 (fun k hk hn=>fQ _ _ _ _ (by simp at hn ⊢;exact hn.1)) (fun k hk=> .inl hk);exact D5.call fun m0 w0 m L X hE=>GD X hE jf pI (ie g jf) hd);clear hd hq jf;have R0:decide (k≤f (g:Int)+n)=true:=(by simp[eK]);go_wp2_with (go_at_call 30;refine ES.out.mono ?_;rintro e w6 ⟨rfl,D6,nV,hsz⟩;have H6:=ag (dO D6 (dO nV hsz));clear D6 nV hsz);go_meet;obtain⟨D6,nV,hsz⟩:=H6.out;refine⟨rfl,yV w6 g S' HQ2 D6 ?_ (fun k hk=>?_) (by simpa[World.setCell]using hsz)⟩
      ·rw[nV tb sX];exact heap_setCell_same w4 tb 0 _ _ (I g) Xl.out.2.2.2.1
      ·rw[nV k (nO _ hk)];exact fQ _ _ _ _ (by simpa using ah2.out k hk)
     ·obtain⟨g,hg,jf⟩:=ah1.out _ (vt tS 0);obtain⟨S',hd,hq⟩:=Xw.out g (by unfold qZ;rw[←Yf.out,aE eK];exact hg);have HQ2:=ag hq
      have ES:Hid (Calls prog 25 #[.pointer (some ⟨eb,0,none⟩),I 0] w4 fun e w'=>e=.returned (I g)∧Dv af F m0 w0 eb L (tb::rb::s::c1::c2::lb.toList) w' S'∧(∀k∈tb::rb::s::c1::c2::lb.toList,w'.heap[k]?=w4.heap[k]?)∧w4.heap.size≤w'.heap.size):=
       Xl.out.1.call fun m0 w0 m L X hE=>zZ X hE (by have:=HBN.out;omega) 0 oX run RV tS hg (by rw[←hg];exact jf) pI (ie g (by rw[←hg];exact jf)) hd
      clear hd hq jf hg;have R0:decide (k≤f o+n)=false:=(by simp[eK]);go_wp2_with (go_at_call 25;refine ES.out.mono ?_;rintro e w6 ⟨rfl,D6,nV,hsz⟩;have tx6:w6.cell? ⟨tb,0,none⟩=some (I 0):=(by rw[cr _ _ _ _ _ _ ((nV tb sX).trans Xl.out.2.2.2.1)];rfl);have tf6:=iM w6 tb 0 _ _ ((nV tb sX).trans Xl.out.2.2.2.1);have H6:=ag (dO D6 (dO nV hsz));clear D6 nV hsz);go_meet;obtain⟨D6,nV,hsz⟩:=H6.out;refine⟨rfl,yV _ g S' HQ2 (D6.mn rfl rfl rfl bp1 (fun k hk hn=>fQ _ _ _ _ (by simp at hn ⊢;exact hn.1)) (fun k hk=> .inl hk)) ?_ (fun k hk=>?_) (by simpa[World.setCell]using hsz)⟩
      ·exact heap_setCell_same w6 tb 0 _ _ (I g) ((nV tb sX).trans Xl.out.2.2.2.1)
      ·rw[fQ _ _ _ _ (by simpa using ah2.out k hk)];exact nV k (nO _ hk)
    case rest=>
     obtain⟨rfl,HC⟩:=hcut;obtain⟨g,S',q1,q2,q3,q4,q5,q6,q7⟩:=HC.out;have e0:wc.cell? ⟨tb,0,none⟩=some (I g):=(by rw[cr _ _ _ _ _ _ q3];rfl);have e1:wc.cell? ⟨tb,1,none⟩=some (.slice (some ⟨rb,0,none⟩) ml rc):=(by rw[cr _ _ _ _ _ _ q3];rfl);have M7:s<wr.heap.size∧c1<wr.heap.size∧c2<wr.heap.size:=⟨HD.out.Bt.lt,HD.out.Bt.m1.lt,HD.out.Bt.m2.lt⟩;have ah3:=ag (Ma (who:=(g:Int)) (some ⟨rb,0,none⟩) rc wc G8 hrl q4 q5 SY (HG.out.age j S f HD.out.q) (fun _ b off e=>by cases e;exact⟨oX,oX⟩));have Rs:=ag (dO q1 (dO q2 (dO q3 (dO q4 (dO q5 (dO q6 q7))))));have XO:=ag M7;clear q1 q2 q3 q4 q5 q6 q7 HC M7;go_upto_region 18 with(go_at_call 31;refine ah3.out.mono ?_;rintro e w5 ⟨rfl,A5,B5⟩;obtain⟨Vi,vV⟩:=dA B5 A5;clear A5 B5)
     have ah4:w3.heap.size≤w5.heap.size:=jm Rs.out.2.2.2.2.2.2 Vi.out.size;have hlb:∀b,(Value.slice la j lc).ownBlock=some b→b≠s∧b≠c1∧b≠c2:=fun b hb=>HD.out.ne b (by rw[←HD.out.la_];exact hb)
     have h5:w5.heap[tb]?=some (.cells #[I g,.slice (some ⟨rb,0,none⟩) ml rc] 83 (0,0)):=(by rw[←Rs.out.2.2.1];exact Vi.out.block tb (by have:=Rs.out.2.2.2.2.2.2;omega) (by have:=Yp.out;omega) (by have:=Yp.out;omega));have f0:w5.cell? ⟨tb,0,none⟩=some (I g):=(by rw[cr _ _ _ _ _ _ h5];rfl);have f1:w5.cell? ⟨tb,1,none⟩=some (.slice (some ⟨rb,0,none⟩) ml rc):=by rw[cr _ _ _ _ _ _ h5];rfl
     have Xm:∀b,(Value.slice la j lc).ownBlock=some b→b<wr.heap.size:=fun b hb=>by
      rcases HD.out.row.2 with⟨h4,_⟩|⟨g',_,_,h4,_,h6,_⟩
      ·rw[h4]at hb;cases hb
      ·rw[h4]at hb;cases hb;exact(dh h6).1
     have nv:Hid (w5.ownsRow w.heap.size 83 2 (.slice la j lc) j cs):=wJ Rs.out.2.2.2.2.2.1 (fun b hb=>Vi.out.block b (by have:=Xm b hb;have:=Rs.out.2.2.2.2.2.2;have:=Yp.out;omega) (hlb b hb).1 (hlb b hb).2.2);have hb5:w.heap.size≤w5.heap.size:=(by have:=HD.out.le;have:=Yp.out;omega);have av6:=ag ah4;obtain⟨xH,aB9⟩:=dA hlb Xm;clear hlb Xm ah4 h5;have Ni:j<1000001:=oX;go_wp2_with (at_builtin;go_loud (refine od (us:=#[I g,.slice (some ⟨rb,0,none⟩) ml rc]) (w2:=w5) rfl (.tmp 71) (.tmp 73) 53 rfl underlying53 hi fV gF gG rfl dX dX rfl rfl bi9 (.slice la j lc) j _ rfl nv w5.heap.size rfl rfl Ni hb5 ?_));intro lg lcp w6 Ak hgr gp
     have hN:Hid (∃S f g2 b1 b2 n1 n2 lb cs,Rf af F m0 w0 eb L Q w w6 s (j+1) (some ⟨lg,0,none⟩) lcp S f g2 b1 b2 n1 n2 lb cs):=by
      obtain⟨q1,q2,q3,q4,q5,q6,q7⟩:=Rs.out;have hle:=HD.out.le;have ht:=Yp.out;have hl:=XO.out;have hsz:=hgr.size;have ha:(w5.alloc (.cells #[I g,.slice (some ⟨rb,0,none⟩) ml rc] 83)).heap.size=w5.heap.size+1:=sX;have h55:=av6.out
      have hlg:lg<w6.heap.size:=by
       rcases Ak.2 with⟨h4,_⟩|⟨g',_,_,h4,_,h6,_⟩
       ·cases h4
       ·cases h4;exact(dh h6).1
      have aC0:w.heap.size≤lg:=by
       rcases Ak.2 with⟨h4,_⟩|⟨g',_,_,h4,h5,h6,_⟩
       ·cases h4
       ·cases h4;exact h5
      have rI:∀k,k<w5.heap.size→(Value.slice la j lc).ownBlock≠some k→w6.heap[k]?=w5.heap[k]?:=fun k hk hn=>by rw[hgr.block k (by rw[ha];omega) (fun e=>hn e.symm)];exact heap_alloc_old _ _ hk
      have hA6:fH w6 s c2 c1 ml n1 (iC (g:Int) run f) f:=vV.out.other (rI _ oX (fun e=>(xH _ e).1 rfl)) (rI _ oX (fun e=>(xH _ e).2.2 rfl)) (rI _ oX (fun e=>(xH _ e).2.1 rfl));have hD5:Dv af F m0 w0 eb L (tb::rb::s::c1::c2::lb.toList) w5 S':=q2.mn Vi.out.os Vi.out.tape Vi.out.output Vi.out.size (fun k hk hn=>Vi.out.block k hk (fun e=>hn bp0) (fun e=>hn bp0)) (fun k hk=> .inl hk)
      have hD6:Dv af F m0 w0 eb L (s::c2::c1::(some lg).toList) w6 S':=hD5.mn hgr.os hgr.tape hgr.output oX (fun k hk hn=>rI k hk (fun e=>hn (by
        have:lb=some k:=by rw[←HD.out.la_];exact e
        rw[this];simp))) (fun k hk=>by
       simp only[iL,Option.toList_some,List.not_mem_nil,or_false]at hk;rcases hk with h|h|h|h
       ·left;rw[h];simp
       ·left;rw[h];simp
       ·left;rw[h];simp
       ·rcases gp with h1|h1
        ·left;have:lb=some lg:=by rw[←HD.out.la_];exact h1
         rw[this,h];simp
        ·right;rw[h];exact⟨oX,hlg⟩)
      refine⟨S',_,_,c2,c1,ml,n1,some lg,_,q1,hA6,Ak,rfl,hD6,⟨hle.1,hle.2.2.1,hle.2.1,oX⟩,fun b hb=>?_⟩
      cases hb;rcases gp with h1|h1
      ·exact⟨(xH _ h1).1,(xH _ h1).2.2,(xH _ h1).2.1⟩
      ·exact⟨oX,oX,oX⟩
     clear hgr gp Ak;go_wp2;go_roundw
     case rel=>exact⟨j+1,_,_,rfl,oX,hN⟩
     case measure=>simp;omega
  ·have hjm:j=most:=by omega
   have ah5:Hid (Calls prog 28 #[.pointer (some ⟨eb,0,none⟩)] wr fun e w2=>∃ra rc,e=.returned (.slice ra ml rc)∧Below wr.heap.size wr w2):=GQ.out.mono (by rintro e w2 ⟨v,rfl,ho,hb⟩;obtain⟨ra,rc,rfl,jF⟩:=ho.rd (by rw[←G8.out];omega);rw[←G8.out];exact⟨ra,rc,rfl,hb⟩);obtain⟨bb,hbb⟩:=dC (decide (cE S.ax=[]))
   have ny:decide ((ml:Int)=0)=bb:=by
    rw[hbb,G8.out,RV.out]
    cases cE S.ax<;>simp;omega
   have aC1:((ml:Int)==0)=bb:=ny;have IX:=ag hbb;have HJM:=ag hjm;clear hbb hjm GQ;go_wp2_with (go_at_call 28;refine ah5.out.mono ?_;rintro e w2 ⟨ra,rc,rfl,hb⟩;have mq:=ag hb;clear hb);go_ret2;exact⟨la,j,lc,S,f,HD.out.q,.inr HJM,by have h:=IX.out;subst h;rfl,(HD.out.dv.mn (bs':=[]) mq.out.os mq.out.tape mq.out.output mq.out.size (fun k hk _=>mq.out.block k hk) (fun k h=>bk0)).tb⟩
theorem yS.shift{S:Wd}{ls:List (List Nat)}{w W0 w1:World}{sa ma da xa ga ca ha:Option Addr}{As:List (List Value)}{Vs:List Value}{Ds:List (List Value)}(H:yS S ls W0 w1 sa ma da xa ga ca ha As Vs Ds){rs:Nat}(h0:w.heap.size≤rs)(h1:W0.heap.size=rs+1)(hb:Below w.heap.size w W0)(vs:List Value):yS S ls w (w1.setCells rs 0 vs) sa ma da xa ga ca ha As Vs Ds:=by
 have key:∀W,lO w.heap.size (w1.setCells rs 0 vs) W→lO W0.heap.size w1 W:=fun W hW b h2 h3=>by rw[hW b oX (by rw[j9];exact h3),iq oX]
 exact⟨H.la,H.a25,H.lv,H.ld,H.d6,Below.setCells h0 _ _ _ (hb.trans (H.below.mono oX)),fun W hW=>H.gs W (key W hW),fun W hW=>H.aC W (key W hW),fun W hW=>H.nA W (key W hW),fun W hW=>H.rd W (key W hW)⟩
section
variable{af eb:Nat}{F:Fx}{w w0:World}{m m0:Mem}{S:Wd}
theorem pU{ls:List (List Nat)}(R:bz af F w m S)(hs:tc S ls)(he:w.heap[eb]?=some (.cells #[.pointer (some ⟨F.al,0,none⟩)] 78 (0,0))):Calls prog 10 #[.pointer (some ⟨eb,0,none⟩)] w fun e w'=>∃sa sc ma mc da dc xa xc ga gc ca cc ha hc As Vs Ds,e=.returned (.agg #[I S.dV,I S.eT,I S.av,.slice ga S.gs.length gc,.slice ha S.au.length hc,.slice sa S.ah.length sc,.slice ca S.gs.length cc,.slice ma S.Eg.aK.length mc,I S.Eg.cO,.slice da S.draws.length dc,I S.drawn,.slice xa S.done.length xc])∧yS S ls w w' sa ma da xa ga ca ha As Vs Ds∧(S.au.length=0→ha=none∧hc=0):=by
 obtain⟨wA,tY⟩:=dC (w.alloc (.cells #[I 0,I 0,I 0,.slice none 0 0,.slice none 0 0,.slice none 0 0,.slice none 0 0,.slice none 0 0,I 0,.slice none 0 0,I 0,.slice none 0 0] 41));have JL:Below w.heap.size w wA:=bs1
 obtain⟨rs,vY⟩:∃r,r=w.heap.size:=⟨_,rfl⟩;have hzA:wA.heap[rs]?=some (.cells qG 41 (0,0)):=by rw[tY,vY];exact dP _ _
 have FI:wA.heap.size=rs+1:=by rw[tY,vY];simp
 have e0:wA.cell? ⟨eb,0,none⟩=some (.pointer (some ⟨F.al,0,none⟩)):=by
  have h1:w.cell? ⟨eb,0,none⟩=some (.pointer (some ⟨F.al,0,none⟩)):=by rw[cr _ _ _ _ _ _ he];rfl
  exact cw JL cG _ _ h1
 have HC:=ag (JK (R.below JL) hs);have HB:=ag JL;have HZ:=ag (dO vY (dO hzA FI));clear R hs he JL hzA FI;go_enter func10,ntmps10;go_upto_region 1 with fail
 rw[←tY,←vY];clear tY vY
 go_wp2_with (first
  |(go_at_call 26;refine HC.out.mono ?_;rintro e w1 ⟨sa,sc,ma,mc,da,dc,xa,xc,ga,gc,ca,cc,ha,hc,As,Vs,Ds,rfl,hr,h00⟩;obtain⟨HR,H00⟩:=dA hr h00;clear h00;have hz:w1.heap[rs]?=some (.cells qG 41 (0,0)):=(hr.below.block rs (by have:=HZ.out.2.2;omega)).trans HZ.out.2.1;have Ue:=ag hz;clear hr hz)
  |(refine cB rfl 41 (.tmp 2) (.tmp 7) rfl rs 0 #[I S.dV,I S.eT,I S.av,.slice ga S.gs.length gc,.slice ha S.au.length hc,.slice sa S.ah.length sc,.slice ca S.gs.length cc,.slice ma S.Eg.aK.length mc,I S.Eg.cO,.slice da S.draws.length dc,I S.drawn,.slice xa S.done.length xc] rfl rfl jB (fun q hq=>by rw[Nat.zero_add,cr _ _ _ _ _ _ Ue.out,xL (show q<qG.size from hq)];rfl) (fun q hq=>iM _ _ _ _ _ Ue) bi9 ?_))
 have iw:=dI (cs:=#[I S.dV,I S.eT,I S.av,.slice ga S.gs.length gc,.slice ha S.au.length hc,.slice sa S.ah.length sc,.slice ca S.gs.length cc,.slice ma S.Eg.aK.length mc,I S.Eg.cO,.slice da S.draws.length dc,I S.drawn,.slice xa S.done.length xc]) Ue rfl;refine bodyPost_ret (lN rfl _ _ rs #[I S.dV,I S.eT,I S.av,.slice ga S.gs.length gc,.slice ha S.au.length hc,.slice sa S.ah.length sc,.slice ca S.gs.length cc,.slice ma S.Eg.aK.length mc,I S.Eg.cO,.slice da S.draws.length dc,I S.drawn,.slice xa S.done.length xc] 41 (0,0) uV jB rfl iw) rfl ?_;exact⟨sa,sc,ma,mc,da,dc,xa,xc,ga,gc,ca,cc,ha,hc,As,Vs,Ds,rfl,HR.out.shift (by rw[HZ.out.1];exact Nat.le_refl _) HZ.out.2.2 HB _,H00⟩
end
end Go.Proofs.YtadifmnmfnihdaaGreat
