import Derived.ChangeOld
import Derived.ChangeSame
import Derived.Deep.Fields
import Derived.Deep.Grids
import Derived.Deep.Slices
import Derived.Deep.Strs
import Derived.OpenShut
import Derived.ProofKit
import Derived.Test.YtadifmnmfnihdaaGreatA23
set_option linter.all false
set_option maxRecDepth 100000
set_option maxHeartbeats 40000000
namespace Go.Proofs.YtadifmnmfnihdaaGreat
open Go.RowKit Mach Go.Proofs.Tryz
theorem cN.Xb{κ:Type}{lo uw:Nat}{w0 w0' w:World}{aV:κ→Option Nat}{ty:κ→Option (Nat×Nat)}{cap:κ→Nat}{c:κ→List Value}(H:cN lo w0 w aV ty cap c)(hb:Below uw w0' w)(hl:uw≤lo):cN uw w0' w aV ty cap c:=
 ⟨hb,jm hl H.tL,H.inj,fun k b h=>⟨jm hl (H.lies k b h).1,(H.lies k b h).2⟩,H.none_⟩
theorem cN.others{κ:Type}{lo:Nat}{w0:World}{aV:κ→Option Nat}{ty:κ→Option (Nat×Nat)}{cap:κ→Nat}{c:κ→List Value}{b:Nat}(hn:∀k,aV k≠some b)(h0:lo≤b):∀(vs:List Value) (j:Nat) (w:World),cN lo w0 w aV ty cap c→cN lo w0 (w.setCells b j vs) aV ty cap c
 | [],_,_,H=>H
 |v::vs,j,w,H=>cN.others hn h0 vs (j+1) _ (H.other (a:=⟨b,j,none⟩) hn h0 v)
structure JD(w w':World)(os:List cu)(aV:CK→Option Nat)(cap:CK→Nat)(c:CK→List Value):Prop where
 own:cN w.heap.size w w' aV Nl cap c
 row:c (some (.ops 0))=bT (J6 aV cap 0) 0 os
 cs:∀(q:Nat) o,os[q]?=some o→c (some (.cases 0 q))=bT fT 0 o.cases
 less:∀(q:Nat),os[q]?=none→aV (some (.cases 0 q))=none
theorem Cq(b:Option Nat)(n c:Nat):∃la ln lc,nG b n c=.slice la ln lc:=by
 unfold nG;split
 ·exact⟨_,_,_,rfl⟩
 ·exact⟨_,_,_,rfl⟩
theorem GK(A:Array Value)(hsz:A.size=25)(Zb:A.all (·.oneCell')=true)(os:List cu)(oa:Option Addr)(oc:Nat)(a0:A[0]?=some (.slice oa os.length oc))(hI:CY os)(r1 r2 r3 r4:Option Addr)(c1 c2 c3 c4:Nat)(a1:A[20]?=some (.slice r1 0 c1))(a2:A[21]?=some (.slice r2 0 c2))(a3:A[22]?=some (.slice r3 0 c3))(a4:A[23]?=some (.slice r4 0 c4))(w:World)(ho:kC w oa os):Calls prog 49 #[.agg A] w fun e w'=>∃aV cap c,e=.returned (.agg (qh A (nG (aV (some (.ops 0))) os.length (cap (some (.ops 0)))) (.slice none 0 0) (.slice none 0 0) (.slice none 0 0) (.slice none 0 0)))∧JD w w' os aV cap c:=by
 obtain⟨i0,hi,fV,gF,gG⟩:=info_parts lC;go_enter func49,ntmps49;go_upto_region 1 with fail
 obtain⟨Z,hZ⟩:∃Z:Array Value,Z=#[Value.slice none 0 0,I 0,I 0,I 0,B false,I 0,B false,I 0,I 0,I 0,I 0,I 0,I 0,I 0,I 0,I 0,I 0,I 0,B false,I 0,Value.slice none 0 0,Value.slice none 0 0,Value.slice none 0 0,Value.slice none 0 0,I 0]:=⟨_,rfl⟩;obtain⟨bx,tl⟩:∃b,b=w.heap.size:=⟨_,rfl⟩;obtain⟨rs,vY⟩:∃b,b=w.heap.size+1:=⟨_,rfl⟩;obtain⟨W0,LI⟩:∃W,W=(w.alloc (.cells A 100)).alloc (.cells Z 100):=⟨_,rfl⟩;have UJ:Z.size=25:=by rw[hZ];rfl
 rw[←hZ,←vY,←tl,←LI];have hs0:W0.heap.size=w.heap.size+2:=by rw[LI];simp
 have C0:CG w W0 bx rs A Z:=by
  have s1:(w.alloc (.cells A 100)).heap.size=w.heap.size+1:=by simp
  rw[LI];exact⟨((fp _ _).alloc cG _).alloc (by rw[s1];omega) _,by omega,by rw[tl];exact(gf _ _ _ (by rw[s1];omega)).trans (dP _ _),by rw[vY,←s1];exact dP _ _⟩
 have x0:=C0.cell a0;obtain⟨n,hn⟩:=dC (os.length);have Zc:n≤100:=by rw[hn];exact hI.1
 obtain⟨q,hq⟩:=dC (W0.heap.size);rw[←hn]at x0
 have tP:Hid (Calls prog 83 #[.slice (some ⟨q,0,none⟩) 1 1] (W0.alloc (.cells #[.slice oa n oc] 50)) fun e w'=>∃g cp la ln lc,e=.returned (.slice (some ⟨g,0,none⟩) 1 cp)∧w'.cell? ⟨g,0,none⟩=some (.slice la ln lc)∧Below W0.heap.size W0 w'∧
   ∃aV cap c,.slice la ln lc=nG (aV (some (.ops 0))) n (cap (some (.ops 0)))∧JD w w' os aV cap c∧∀k b,aV k=some b→W0.heap.size≤b):=by
  have jF:eW (W0.alloc (.cells #[.slice oa n oc] 50)) (some ⟨q,0,none⟩) [os]:=by
   refine⟨by simp,fun i os' hi=>?_⟩
   cases i with
   |zero=>
    simp at hi;subst hi;refine⟨q,0,oa,oc,rfl,?_,?_⟩
    ·rw[hq,←hn,cr _ _ _ _ _ _ (dP _ _)];rfl
    ·exact ho.below (C0.alloc _).below cG
   |succ i=>simp at hi
  refine(tQ [os] 1 rfl (some ⟨q,0,none⟩) 1 _ jF (BR hI)).mono ?_;rintro e w' ⟨g,cp,aV,cap,c,rfl,hC,h1,h2⟩;obtain⟨la,ln,lc,hm⟩:=Cq (aV (some (.ops 0))) n (cap (some (.ops 0)));have KS:Below W0.heap.size W0 w':=((fp _ _).alloc cG _).trans (hC.own.below.mono (by simp));have hBw:Below w.heap.size w w':=C0.below.trans (KS.mono (by omega));refine⟨g,cp,la,ln,lc,rfl,?_,KS,aV,cap,c,hm.symm,⟨hC.own.Xb hBw (by simp;omega),hC.rows 0 (by omega),fun q o h=>hC.rU 0 q o (.inl (by omega)) h,fun q h=>hC.less 0 q h⟩,fun k b h=>?_⟩
  ·rw[←hm];refine hC.own.cell (k:=none) h1 ?_;rw[hC.out,hn];rfl
  ·have:=(hC.own.lies k b h).1;simp at this;omega
 have HC0:=ag C0;have HA:=ag (dO a0 (dO a1 (dO a2 (dO a3 a4))));obtain⟨xW,UK,XF,Ke⟩:=ia hsz UJ Zb hn;have HLO:Hid (bx<W0.heap.size∧rs<W0.heap.size∧w.heap.size≤bx∧w.heap.size≤rs):=⟨by omega,by omega,by omega,by omega⟩;clear C0 a0 a1 a2 a3 a4 hsz UJ Zb LI hZ tl vY ho hI hn hs0;go_upto_region 2 with(go_at_call 83;rw[←hq];refine tP.out.mono ?_;rintro e W1 ⟨g,cp,la,ln,lc,rfl,y0,hb,iw⟩;have C1:=HC0.out.call hb;have xf0:=C1.frozen 0;have x0':=C1.cell (j:=0) (v:=.slice oa n oc) (by rw[Ke.out];exact HA.out.1);obtain⟨Sz,D4⟩:=dA C1 iw;clear C1 iw hb)
 obtain⟨P0,SA⟩:∃P,Hid (P=W1.setCell ⟨bx,0,none⟩ (.slice la ln lc)):=⟨_,rfl⟩;have C0:=Sz.out.set 0 (.slice la ln lc);rw[←SA.out]at C0 ⊢;have e20:P0.cell? ⟨bx,20,none⟩=some (.slice r1 0 c1):=C0.cell (by rw[ur (by decide)];exact HA.out.2.1);have e21:P0.cell? ⟨bx,21,none⟩=some (.slice r2 0 c2):=C0.cell (by rw[ur (by decide)];exact HA.out.2.2.1);have e22:P0.cell? ⟨bx,22,none⟩=some (.slice r3 0 c3):=C0.cell (by rw[ur (by decide)];exact HA.out.2.2.2.1);have e23:P0.cell? ⟨bx,23,none⟩=some (.slice r4 0 c4):=C0.cell (by rw[ur (by decide)];exact HA.out.2.2.2.2);have f20:=C0.frozen 20;have f21:=C0.frozen 21;have f22:=C0.frozen 22;have f23:=C0.frozen 23;have Zd:=ag C0;clear C0 y0 xf0 x0' x0
 go_upto_region 6 with(at_builtin;first
  |refine gO rfl (.const (.slice none 0 0)) (.tmp 11) 28 rfl underlying28 hi rfl _ _ rfl ?_
  |refine gO rfl (.const (.slice none 0 0)) (.tmp 15) 28 rfl underlying28 hi rfl _ _ rfl ?_
  |refine gO rfl (.const (.slice none 0 0)) (.tmp 19) 28 rfl underlying28 hi rfl _ _ rfl ?_
  |refine gO rfl (.const (.slice none 0 0)) (.tmp 23) 28 rfl underlying28 hi rfl _ _ rfl ?_)
 obtain⟨P4,G6⟩:∃P,Hid (P=(((P0.setCell ⟨bx,20,none⟩ (.slice none 0 0)).setCell ⟨bx,21,none⟩ (.slice none 0 0)).setCell ⟨bx,22,none⟩ (.slice none 0 0)).setCell ⟨bx,23,none⟩ (.slice none 0 0)):=⟨_,rfl⟩;rw[←G6.out];have C4:=(((Zd.out.set 20 (.slice none 0 0)).set 21 (.slice none 0 0)).set 22 (.slice none 0 0)).set 23 (.slice none 0 0);rw[←G6.out]at C4;have Ov:=ag C4;clear C4 e20 e21 e22 e23 f20 f21 f22 f23;refine wp_region_lit ?_;refine wpList_load_mid rfl 100 (.tmp 1) rfl bx 0 rfl (qh A (.slice la ln lc) (.slice none 0 0) (.slice none 0 0) (.slice none 0 0) (.slice none 0 0)) (fun j v hv=>by rw[Nat.zero_add];exact Ov.out.cell hv) mC (by rw[fE];simp[qh,xW.out]) ?_
 refine cB rfl 100 (.tmp 2) (.tmp 26) rfl rs 0 (qh A (.slice la ln lc) (.slice none 0 0) (.slice none 0 0) (.slice none 0 0) (.slice none 0 0)) rfl rfl (by rw[fE];simp[qh,xW.out]) (fun j hj=>by
   rw[cr _ _ _ _ _ _ Ov.out.res];have:j<25:=by simpa[qh,xW.out]using hj
   rw[Nat.zero_add,xL (by rw[UK.out];exact this)];rfl) (fun j hj=>iM _ _ _ _ _ Ov.out.res) (mR (mR (mR (mR (mR XF.out rfl) rfl) rfl) rfl) rfl) ?_
 go_wp2;have hsz:(qh A (.slice la ln lc) (.slice none 0 0) (.slice none 0 0) (.slice none 0 0) (.slice none 0 0)).size=25:=by simp[qh,xW.out]
 have iw:=dI (cs:=qh A (.slice la ln lc) (.slice none 0 0) (.slice none 0 0) (.slice none 0 0) (.slice none 0 0)) Ov.out.res (by rw[hsz];exact UK.out);refine bodyPost_ret (lN rfl _ _ rs _ 100 (0,0) mC (by rw[fE,hsz]) rfl iw) rfl ?_;obtain⟨aV,cap,c,hm,hR,ja⟩:=D4.out;obtain⟨l1,l2,l3,l4⟩:=HLO.out;have cM:∀k,aV k≠some bx:=fun k e=>by have:=ja k bx e;omega
 have xw:∀k,aV k≠some rs:=fun k e=>by have:=ja k rs e;omega
 refine⟨aV,cap,c,by rw[←Ke.out,←hm],?_,hR.row,hR.cs,hR.less⟩;have o0:cN w.heap.size w P0 aV Nl cap c:=by rw[SA.out];exact hR.own.other (a:=⟨bx,0,none⟩) cM l3 _
 have o4:cN w.heap.size w P4 aV Nl cap c:=by rw[G6.out];exact(((o0.other (a:=⟨bx,20,none⟩) cM l3 _).other (a:=⟨bx,21,none⟩) cM l3 _).other (a:=⟨bx,22,none⟩) cM l3 _).other (a:=⟨bx,23,none⟩) cM l3 _
 exact cN.others xw l4 _ _ _ o4
section
variable{af:Nat}{F:Fx}{w w0 w':World}{m m0 m':Mem}{S S':Wd}{L:List (Nat×Obj)}
theorem lZ{W W3 w':World}{r:Option Nat}(h:W3.grownBy w' r)(hh:W3.heap=W.heap)(h1:W3.os=W.os)(h2:W3.tape=W.tape)(h3:W3.output=W.output):W.grownBy w' r:=
 ⟨h.os.trans h1,h.tape.trans h2,h.output.trans h3,by rw[←hh];exact h.size,fun k hk hn=>by rw[←hh];exact h.block k (by rw[hh];exact hk) hn⟩
theorem JE(R:bz af F w m S)(h:0<S.aq.length):Calls prog 169 #[.pointer (some ⟨F.dY,0,none⟩),I 0,I (-1)] w (eL (.bool false) fun w'=>w=w'):=by
 have c0:=R.sM;have hx:S.aq[0]?=some S.aq[0]:=fv h;obtain⟨x,AF⟩:=dC (S.aq[0]);rw[←AF]at hx;obtain⟨ob,jz,hh⟩:=Mem.CO (r:=.dQ) (n:=S.aq.length) R (by simp[aj];intro e;rw[e]at h;simp at h);rw[hh]at c0;have c1:w.cell? ⟨ob,0,none⟩=some (I x):=R.cell jz (by simp[aj,hx]);obtain⟨n,hn⟩:=dC (S.aq.length);rw[←hn]at c0 h;clear R hh AF hx jz hn;go_enter func169,ntmps169;go_wp2;go_ret;exact⟨rfl,rfl⟩
theorem Ub(A:At af F m0 w0 m w S)(h:0<S.aq.length)(n:Nat):Calls prog 169 #[.pointer (some ⟨F.dY,0,none⟩),I 0,I (-1)] (w.drewN n) fun e w'=>e=.returned (.bool false)∧w'=w.drewN n:=
 (JE (A.drewN n).bj h).mono fun e w' h=>⟨h.1,h.2.symm⟩
theorem D7(R:bz af F w m S)(tS:S.au=[])(Dj:S.aO=[])(Fu:0<S.aq.length):Calls prog 134 #[bR F,I 1,.agg #[I 0,.slice none 0 0,B false,I (-1),.slice none 0 0,.slice none 0 0]] w (ee (To af F m w (iu S 0 0))):=by
 obtain⟨i1,hi1,gF,rh,gq⟩:=info_parts KF;obtain⟨i2,hi2,gG,vz,mz⟩:=info_parts P7;obtain⟨va,vc,hh⟩:=R.shape (r:=.au) (n:=0) (by simp[aj,tS]);have hk:S.au.length=0:=by rw[tS];rfl
 have gm:S.aO.length=0:=by rw[Dj];rfl
 have HX:=ag ((AB.iU R).alloc (.cells #[I 0,.slice none 0 0,B false,I (-1),.slice none 0 0,.slice none 0 0] 59));have HN:=ag (fun w=>wY 0 (by omega) w);have HK:=ag hk;have tP:=ag gm;have WV:=ag hh;have vD:=ag R.eS;have TD:Hid (F.al<w.heap.size):=R.lt R.aB.al;clear R hh hk gm tS Dj;unfold bR;go_enter func134,ntmps134;go_wp2_with (first|(go_at_call 193;refine(HN.out _).mono ?_;rintro e wA ⟨rb,pb,rfl,NY⟩;have P8:=ag NY;have XA:=HX.out.av ((At.refl HX.out.bj).heap NY.below);have RA:=XA.bj;have d5:=RA.qx;rw[HK.out,WV.out]at d5;have fd5:=RA.frozen RA.aB.al 5;have l1:=RA.lt RA.aB.al;have hown:=RA.owns (r:=.au) (p:=(118,1)) rfl (by decide) (n:=0) (by simp[aj,HK.out]);rw[WV.out]at hown;have HO:=ag hown;have qq:=RA.eS;have iv:=ag XA;clear XA RA NY hown)|(at_builtin;go_loud (refine jw (us:=#[.pointer (some ⟨rb,0,none⟩)]) (w2:=wA) rfl (.tmp 24) (.tmp 26) 87 rfl underlying87 hi1 gF rh gq rfl (by decide) (by decide) rfl rfl (by simp[Value.oneCell']) (.slice va 0 vc) 0 _ rfl HO.out rfl (by omega) qq ?_)));intro gg cap w3 er bX bE;have jz:(Value.slice va 0 vc).ownBlock=m.aV .au:=by rw[←WV.out,Mem.mM]
 rw[jz]at bX bE;have FI:(w.alloc (.cells #[I 0,.slice none 0 0,B false,I (-1),.slice none 0 0,.slice none 0 0] 59)).heap.size=w.heap.size+1:=by simp
 have P9:=P8.out.rb0;have Qa:=P8.out.pb0;have au1:w.heap.size+1≤rb:=by rw[←FI];exact P9
 have Pj:w.heap.size+1≤pb:=by rw[←FI];exact Qa
 have XB:=iv.out.yc (buf:=.cells #[.pointer (some ⟨rb,0,none⟩)] 118) P8.out.eU P8.out.places P8.out.ne (by have:=vD.out;omega) (by have:=vD.out;omega) (HX.out.bj.iT P9) (HX.out.bj.iT Qa) (by omega) (by omega) (by omega) (by omega) bX (by rw[HK.out];exact er) (by simpa using bE);rw[HK.out]at XB;obtain⟨wB,hwB,XB⟩:∃wB,wB=_∧AB af F m w ((m.fR 0 rb pb 0).eG .au (some gg) cap) wB _ _:=⟨_,rfl,XB⟩;have d5b:=fW (o:=.cells #[.pointer (some ⟨rb,0,none⟩)] 118) bX d5 rfl (iv.out.bj.jv iv.out.bj.aB.al (by simp));have WW:=fN (o:=.cells #[.pointer (some ⟨rb,0,none⟩)] 118) bX fd5 l1 rfl (iv.out.bj.jv iv.out.bj.aB.al (by simp));have wG:=ag XB;have UT:=ag hwB;clear er bX bE XB hwB;go_upto_region 3 with fail
 rw[←UT.out];clear d5 fd5 d5b WW UT HO qq l1;have RB:=wG.out.bj;have fe6:=RB.frozen RB.aB.al 6;have l1:=RB.lt RB.aB.al;obtain⟨vb,vd,TE⟩:=RB.shape (r:=.aO) (n:=S.aO.length) (by simp[aj]);have e6:wB.cell? ⟨F.al,6,none⟩=some (.slice vb 0 vd):=by rw[←tP.out,←TE];exact RB.Cv
 have zF:=RB.owns (r:=.aO) (p:=(4,1)) rfl (by decide) (n:=S.aO.length) (by simp[aj]);rw[TE]at zF;have fu:wB.ownsRow af 4 1 (.slice vb 0 vd) 0 (S.aO.map B):=by rw[←tP.out];exact zF
 have Jg:Hid ((Value.slice vb 0 vd).ownBlock=((m.fR 0 rb pb 0).eG .au (some gg) cap).aV .aO):=by rw[←tP.out,←TE,Mem.mM];exact ag rfl
 have Jh:Hid ((Value.slice vb 0 vd).ownBlock≠some F.al):=by rw[Jg.out];exact RB.jv RB.aB.al (by simp)
 have OJ:=ag fu;have Ga:=RB.eS;obtain⟨b0,b1,b2,b3,b4,b5⟩:=jD wG.out.head;have lb0:w.heap.size<wB.heap.size:=(dh wG.out.head).1;clear RB TE fu zF;go_region_law (refine jN (us:=#[B false]) (w2:=wB) rfl (.tmp 34) (.tmp 37) 88 rfl underlying88 hi2 gG vz mz rfl (by decide) (by decide) rfl rfl (by simp[Value.oneCell']) (.slice vb 0 vd) 0 _ rfl OJ.out rfl (by omega) Ga ?_;intro g2 hU w4 Gb KT qU;have oQ:(wB.alloc (.cells #[B false] 4)).grownBy w4 (Value.slice vb 0 vd).ownBlock:=lZ KT rfl rfl rfl rfl;have d6:=fW (o:=.cells #[B false] 4) oQ e6 rfl Jh.out;have fd6:=fN (o:=.cells #[B false] 4) oQ fe6 l1 rfl Jh.out)
 all_goals
  rw[Jg.out]at oQ qU;have hlc:(S.aO++[false]).length=1:=by simp[tP.out]
  have XC:=wG.out.av (((At.refl wG.out.bj).alloc (.cells #[B false] 4)).BP (l:=S.aO++[false]) oQ (by rw[hlc,List.map_append];exact Gb) (by simpa using qU));rw[hlc]at XC;obtain⟨wC,hwC,XC⟩:∃wC,wC=_∧AB af F m w (((m.fR 0 rb pb 0).eG .au (some gg) cap).eG .aO (some g2) hU) wC (iu S 0 0) _:=⟨_,rfl,XC.WU (by simp[iu])⟩;have My:=ag XC;have HWC:=ag hwC;clear Gb oQ KT qU XC hwC;go_upto_region 4 with fail
  rw[←HWC.out];clear HWC d6 fd6 e6 fe6 OJ Ga Jg Jh l1 wG b0 b1 b2 b3 b4 b5;have R1:=My.out.bj;have c7:=R1.pC;obtain⟨b0,b1,b2,b3,b4,b5⟩:=jD My.out.head;have HTQ:=ag (fun q=>Ub My.out.at_ (by simpa[iu]using Fu) q);clear R1;go_quiet ((go_at_call 169;exact Calls.quiet_of_same (HTQ.out _)));go_upto_region 5 with fail
  go_wp2_with fail
  go_loopw [53] (fun i wr=>i=.int .i64 0∧wr=wC.drewN nq) (fun i _=>0)
  case atStart=>exact⟨rfl,rfl⟩
  case round=>
   obtain⟨rfl,rfl⟩:=hrel;go_wp2_with fail
   go_loopw [69] (fun i wr=>i=.int .i64 0∧wr=wC.drewN nq) (fun i _=>0)
   case atStart=>exact⟨rfl,rfl⟩
   case round=>
    obtain⟨rfl,rfl⟩:=hrel;go_wp2_with fail
    go_end0;exact⟨rfl,_,My.out.at_.drewN _⟩
end
theorem um(o:cu)(hk:o.ai=9)(a:Option Addr)(c:Nat)(w:World)(n:Nat)(hn:n=o.cases.length)(hr:mI o=true)(Lo:o.ch≠0∨o.v≠0∨o.n≠0):Calls prog 42 #[.agg #[I o.ai,I o.ch,I o.n,I o.v,.slice a n c,B o.dG]] w (eL (.bool (yF o)) (Below w.heap.size w)):=by
 have e:yF o=false:=by
  rw[DB,hr,hk];have h1:il 9=false:=by decide
  have h2:kD 9=false:=by decide
  rw[h1,h2];rcases Lo with h|h|h<;>simp[h]
 rw[e,hk];have hn6:n≤6:=by unfold mI at hr;simp at hr;rw[hn];omega
 have hn7:decide (6<(n:Int))=false:=by simp;omega
 have gq:il 9=false:=by decide
 have mz:kD 9=false:=by decide
 have C5:0≤o.ch∧o.ch≤8∧0≤o.n∧o.n≤4∧0≤o.v∧o.v≤255:=by unfold mI at hr;simp at hr;omega
 obtain⟨ch,bO⟩:=dC (o.ch);obtain⟨nn,Ww⟩:=dC (o.n);obtain⟨v,hv⟩:=dC (o.v);rw[←bO,←Ww,←hv]at C5 Lo ⊢;obtain⟨r1,r2,r3,r4,r5,r6⟩:=C5;clear hr hn hk e bO Ww hv;go_enter func42,ntmps42;go_wp2_with (first|(go_at_call 75;refine(sq _ _).mono ?_;rintro e w1 ⟨rfl,rfl⟩)|(go_at_call 76;refine(uc _ _).mono ?_;rintro e w1 ⟨rfl,rfl⟩))
 all_goals first
  |(exfalso;omega)
  |(go_ret;exact⟨rfl,(fp _ _).alloc cG _⟩)
  |(exfalso;simp_all;done)
  |(exfalso;simp_all;omega)
theorem D8(o:cu)(a:Option Addr)(c:Nat)(w:World)(h:gW w a o.cases):Calls prog 42 #[.agg #[I o.ai,I o.ch,I o.n,I o.v,.slice a o.cases.length c,B o.dG]] w (eL (.bool (yF o)) (Below w.heap.size w)):=by
 cases hr:mI o with
 |false=>exact Bb o a c w _ rfl hr
 |true=>
  have hk:1≤o.ai∧o.ai≤9:=by unfold mI at hr;simp at hr;omega
  by_cases h9:o.ai=9
  ·by_cases hc:o.ch=0
   ·by_cases hv:o.v=0
    ·by_cases h0:o.n=0
     ·exact Mk o h9 a c w h _ rfl hr hc hv h0
     ·exact um o h9 a c w _ rfl hr (.inr (.inr h0))
    ·exact um o h9 a c w _ rfl hr (.inr (.inl hv))
   ·exact um o h9 a c w _ rfl hr (.inl hc)
  ·have:o.ai=1∨o.ai=2∨o.ai=3∨o.ai=4∨o.ai=5∨o.ai=6∨o.ai=7∨o.ai=8:=by omega
   exact Ml o this a c w _ rfl hr
def D9(l:List cu):Bool:=l.all yF&&decide (l.length≤16)
theorem Ac(p:List (List cu)):im p=(p.all D9&&decide (1≤p.length)&&decide (p.length≤8)):=rfl
theorem Ad(p:List (List cu))(n:Nat)(hn:n=p.length)(a:Option Addr)(c:Nat)(w:World)(h:eW w a p):Calls prog 22 #[.slice a n c] w (eL (.bool (im p)) (Below w.heap.size w)):=by
 have hb:n≤9223372036854775807:=by rw[hn];exact h.1
 obtain⟨H,HN⟩:=dA h hn;clear h hn;go_enter func22,ntmps22;go_wp2;go_loopw [9] (fun q wr=>∃i:Nat,q=.int .i64 i∧i≤n∧Hid ((p.take i).all D9=true)∧Hid (Below w.heap.size w wr)) (fun q _=>n-(intOf q).toNat)
 case atStart=>exact⟨0,rfl,by omega,(by simp:(p.take 0).all D9=true),fp _ _⟩
 case round=>
  obtain⟨i,rfl,hi,HA,HB⟩:=hrel;by_cases dD:i<n
  ·obtain⟨os,No⟩:∃os,p[i]?=some os:=⟨_,fv (by rw[←HN.out];exact dD)⟩;obtain⟨b,off,r,c1,rfl,oF,rS⟩:=(H.out.below HB.out cG).2 i os No;obtain⟨m,hm⟩:=dC (os.length);rw[←hm]at oF;have ny:m≤9223372036854775807:=by rw[hm];exact rS.1
   obtain⟨HO,HM,HOS⟩:=ij rS hm No;obtain⟨wo,VB⟩:=dC (wr);subst VB;clear rS hm No;go_wp2;go_loopw [15] (fun q wr=>∃j:Nat,q=.int .i64 j∧j≤m∧Hid ((os.take j).all yF=true)∧Hid (Below wo.heap.size wo wr)) (fun q _=>m-(intOf q).toNat)
   case atStart=>exact⟨0,rfl,by omega,(by simp:(os.take 0).all yF=true),fp _ _⟩
   case round=>
    obtain⟨j,rfl,hj,nx,mq⟩:=hrel;have BK:Hid (Below w.heap.size w wr):=HB.out.trans (mq.out.mono HB.out.size);by_cases rT:j<m
    ·obtain⟨o,ho⟩:∃o,os[j]?=some o:=⟨_,fv (by rw[←HM.out];exact rT)⟩;obtain⟨b2,o2,x,cx,rfl,e0,e1,e2,e3,e4,e5,fa,_⟩:=(HO.out.below mq.out cG).2 j o ho;have HW:Hid (∀W,W.heap=(wr.alloc (eD o x cx)).heap→Calls prog 42 #[.agg #[I o.ai,I o.ch,I o.n,I o.v,.slice x o.cases.length cx,B o.dG]] W fun e w'=>e=.returned (.bool (yF o))∧Below W.heap.size W w'):=fun W hW=>D8 o x cx W (fa.fU fun ad v hv=>by rw[kZ (w:=wr) (by rw[hW];exact gf wr _ _ (xo _ _ hv))];exact hv)
     have Yf:=ag ho;clear ho fa
     cases Pu:yF o with
     |true=>
      rw[Pu]at HW;have vC:Hid ((os.take (j+1)).all yF=true):=(by show _=_;rw[List.take_succ,Yf.out,List.all_append,nx.out];simp[Pu]);go_wp2_with (go_at_call 42;refine(HW.out _ rfl).mono ?_;rintro e w3 ⟨rfl,hbb⟩;have tK:Hid (Below wo.heap.size wo w3):=(mq.out.alloc mq.out.size _).trans (hbb.mono (by simp;have:=mq.out.size;omega));clear hbb);go_roundw
      case rel=>exact⟨j+1,by go_num,by omega,vC,tK⟩
      case measure=>simp[intOf];omega
     |false=>
      rw[Pu]at HW
      have HF:Hid (im p=false):=by
       show _=_;rw[Ac,show p.all D9=false from ?_]
       ·rfl
       ·rw[List.all_eq_false];refine⟨os,lf HOS.out,?_⟩;unfold D9;rw[show os.all yF=false from List.all_eq_false.2 ⟨o,lf Yf.out,by simp[Pu]⟩];simp
      go_wp2_with (go_at_call 42;refine(HW.out _ rfl).mono ?_;rintro e w3 ⟨rfl,hbb⟩;have tK:Hid (Below w.heap.size w w3):=(BK.out.alloc BK.out.size _).trans (hbb.mono (by simp;have:=BK.out.size;omega));clear hbb);go_ret;exact⟨by rw[HF.out];rfl,tK.out⟩
    ·obtain rfl:j=m:=by omega
     have uY:os.all yF=true:=(by have:=nx.out;rw[HM.out,List.take_length]at this;exact this);by_cases SO:j≤16
     ·have vC:Hid ((p.take (i+1)).all D9=true):=by
       show _=_;rw[List.take_succ,HOS.out,List.all_append,HA.out];simp[D9,uY,←HM.out,SO]
      have hd:decide (16<(j:Int))=false:=(by simp;omega);clear uY;go_wp2;go_roundw
      case rel=>exact⟨i+1,by go_num,by omega,vC,BK⟩
      case measure=>simp[intOf];omega
     ·have HF:Hid (im p=false):=by
       show _=_;rw[Ac,show p.all D9=false from ?_]
       ·rfl
       ·rw[List.all_eq_false];refine⟨os,lf HOS.out,?_⟩;unfold D9;rw[←HM.out];simp[SO]
      have hd:decide (16<(j:Int))=true:=(by simp;omega);clear uY;go_wp2;go_ret;exact⟨by rw[HF.out];rfl,BK.out⟩
  ·obtain rfl:i=n:=by omega
   have HE:Hid (im p=(decide (1≤i)&&decide (i≤8))):=(by show _=_;have:=HA.out;rw[HN.out,List.take_length]at this;rw[Ac,this,←HN.out];simp);by_cases h1:1≤i
   ·have hd:decide ((1:Int)≤i)=true:=(by simp;omega);go_wp2;go_ret;refine⟨?_,HB.out⟩;rw[HE.out];simp[h1];try omega
   ·have hd:decide ((1:Int)≤i)=false:=(by simp;omega);go_wp2;go_ret;refine⟨?_,HB.out⟩;rw[HE.out];simp[h1]
theorem JF(db:Nat)(a:Option Addr)(c:Nat)(w:World)(h0:w.cell? ⟨db,0,none⟩=some (.slice a 0 c))(h1:w.cell? ⟨db,1,none⟩=some (I 0)):Calls prog 192 #[.pointer (some ⟨db,0,none⟩)] w (eL (I 0) fun w'=>∃n,w'=w.drewN n):=by
 go_enter func192,ntmps192;go_upto_region 1 with fail
 go_region
 all_goals
  go_wp2;go_ret;exact⟨rfl,_,rfl⟩
theorem JG(db:Nat)(a:Option Addr)(c:Nat)(w:World)(h0:w.cell? ⟨db,0,none⟩=some (.slice a 0 c))(h1:w.cell? ⟨db,1,none⟩=some (I 0))(hf:w.frozen? ⟨db,1,none⟩=false):Calls prog 132 #[.pointer (some ⟨db,0,none⟩),I 0] w (ee fun w'=>∃n,w'=(w.drewN n).setCell ⟨db,1,none⟩ (I 0)):=by
 have HL:Hid (∀W:World,W.heap=w.heap→Calls prog 192 #[.pointer (some ⟨db,0,none⟩)] W fun e w'=>e=.returned (I 0)∧∃k,w'=W.drewN k):=fun W hW=>JF db a c W ((kZ (w:=w) (a:=⟨db,0,none⟩) (by rw[hW])).trans h0) ((kZ (w:=w) (a:=⟨db,1,none⟩) (by rw[hW])).trans h1)
 clear h0;go_enter func132,ntmps132;go_upto_region 1 with fail
 go_region_with (go_at_call 192;refine(HL.out _ ?_).mono ?_;rfl;rintro e wq ⟨rfl,kk,rfl⟩)
 all_goals
  go_wp2;go_end0;exact⟨rfl,_,rfl⟩
theorem JH(bb g:Nat)(a:Option Addr)(c:Nat)(w:World)(h0:w.cell? ⟨bb,0,none⟩=some (.slice a 2 c))(hg:g<2):Calls prog 85 #[.pointer (some ⟨bb,0,none⟩),I g] w (oV fun w'=>w=w'):=by
 go_enter func85,ntmps85;go_wp2;go_ret;exact⟨by simp;omega,rfl⟩
theorem MZ(bb gb g:Nat)(c:Nat)(w:World)(h0:w.cell? ⟨bb,0,none⟩=some (.slice (some ⟨gb,0,none⟩) 2 c))(hg:g<2)(h1:w.cell? ⟨gb,g*2,none⟩=some (I 0))(h2:w.cell? ⟨gb,g*2+1,none⟩=some (B false))(hf:∀j,w.frozen? ⟨gb,j,none⟩=false):Calls prog 133 #[.pointer (some ⟨bb,0,none⟩),I g,I 0,.bool false] w (oV fun w'=>w'=(w.setCell ⟨gb,g*2,none⟩ (I 0)).setCell ⟨gb,g*2+1,none⟩ (B false)):=by
 have HT:=ag (JH bb g (some ⟨gb,0,none⟩) c w h0 hg);go_enter func133,ntmps133;go_wp2_with (go_at_call 85;refine HT.out.mono ?_;rintro e w2 ⟨rfl,rfl⟩);go_ret;exact⟨rfl,rfl⟩
theorem Tryz.Uc:(prog.info? 44).map (fun i=>(i.zero,i.size,i.bytes))=some (some (.agg #[I 0,I 0,I 0,B false,I 0]),5,40):=by kernel_rfl
theorem ag3:prog.underlying 69=some (.slice 44):=by kernel_rfl
def oY(l:List Ex):List nP:=(l.filter fun m=>m.g==1).map (·.res)
def Af:List nP→List Value
 | []=>[]
 |r::l=>ru r++Af l
theorem Cr:∀(l:List nP) (o:nP),Af (l++[o])=Af l++ru o
 | [],o=>by simp[Af]
 |a::l,o=>by rw[sY];unfold Af;rw[Cr l o,List.append_assoc]
theorem M1(l:List Ex)(m:Ex):oY (l++[m])=if m.g=1 then oY l++[m.res]else oY l:=by
 unfold oY;rw[List.filter_append,List.map_append];by_cases h:m.g=1
 ·simp[List.filter,h]
 ·have h2:(m.g==1)=false:=by simpa using h
  simp[List.filter,h,h2]
theorem Ud(l:List Ex):(oY l).length≤l.length:=by
 unfold oY;rw[ko];exact List.length_filter_le _ _
theorem QX(x0 x1 x2 x3 x4 x5 x6 x7 x8 x9 RI:Value)(l:List Ex)(n:Nat)(hn:n=l.length)(RH:n≤900000)(xa:Option Addr)(xc:Nat)(w:World)(hS:gC w xa n (bT ib 0 l))(h1:(#[x0,x1,x2,x3,x4,x5,x6,x7,x8,x9,RI]:Array Value).all (·.oneCell')=true):Calls prog 21 #[.agg #[x0,x1,x2,x3,x4,x5,x6,x7,x8,x9,RI,.slice xa n xc],I 1] w fun e w'=>∃a c,e=.returned (.slice a (oY l).length c)∧gC w' a (oY l).length (Af (oY l))∧Below w.heap.size w w':=by
 obtain⟨i0,hi,fV,gF,gG⟩:=info_parts Tryz.Uc;have HN:=ag hn;have HS:=ag hS;clear hS hn;go_enter func21,ntmps21;go_wp2
 have h0:Hid (0=(oY (l.take 0)).length∧(w.alloc (.cells #[x0,x1,x2,x3,x4,x5,x6,x7,x8,x9,RI,.slice xa n xc] 41)).ownsRow w.heap.size 44 5 (.slice none 0 0) 0 (Af (oY (l.take 0)))∧Below w.heap.size w (w.alloc (.cells #[x0,x1,x2,x3,x4,x5,x6,x7,x8,x9,RI,.slice xa n xc] 41))):=
  ⟨rfl,World.ownsRow_nil _ _ _ _,(fp _ _).alloc cG _⟩
 go_loopw [5,11] (fun t i wr=>∃(j:Nat) (a:Option Addr) (k c:Nat),t=.slice a k c∧i=.int .i64 j∧j≤n∧Hid (k=(oY (l.take j)).length∧wr.ownsRow w.heap.size 44 5 (.slice a k c) k (Af (oY (l.take j)))∧Below w.heap.size w wr)) (fun t i _=>n-(intOf i).toNat)
 case atStart=>exact⟨0,none,0,0,rfl,rfl,by omega,h0⟩
 case round=>
  clear h0;obtain⟨j,a,k,c,rfl,rfl,hj,HW⟩:=hrel;by_cases dD:j<n
  ·obtain⟨b,off,rfl,hc⟩:=HS.out (by omega);obtain⟨m,hm⟩:∃m,l[j]?=some m:=⟨_,fv (by rw[←HN.out];exact dD)⟩;have HM:=ag hm;have HC:Hid (∀q v,(#[I m.g,I m.op,I m.call,I m.bJ,I m.point,I m.bF,I m.fire,I m.re,I m.res.aJ,I m.res.case,I m.res.v,B m.res.ok,I m.res.n]:Array Value)[q]?=some v→wr.cell? ⟨b,off+j*13+q,none⟩=some v):=fun q v hq=>by have Xc:q<13:=(dh hq).1;have:=hc (j*13+q) v (by rw[fq (f:=ib) (k:=13) (fun _ _=>rfl) l 0 j q m hm Xc];simpa[ib,ru]using hq);rw[←Nat.add_assoc]at this;exact cw HW.out.2.2 cG _ _ this
   have hk:k≤900000:=(by rw[HW.out.1];have:=Ud (l.take j);rw[tC]at this;omega);have qq:w.heap.size≤wr.heap.size:=HW.out.2.2.size;clear hm hc;go_upto_region 4 with fail
   repeat(fail_if_success (refine wpList_load_mid rfl 46 (.tmp 13) rfl b (off+j*13) rfl #[I m.g,I m.op,I m.call,I m.bJ,I m.point,I m.bF,I m.fire,I m.re,I m.res.aJ,I m.res.case,I m.res.v,B m.res.ok,I m.res.n] ?_ ?_ ?_ ?_));go_step
   refine wpList_load_mid rfl 46 (.tmp 13) rfl b (off+j*13) rfl #[I m.g,I m.op,I m.call,I m.bJ,I m.point,I m.bF,I m.fire,I m.re,I m.res.aJ,I m.res.case,I m.res.v,B m.res.ok,I m.res.n] HC.out Ob vS ?_;repeat(fail_if_success (refine df rfl 46 (.tmp 7) (.tmp 14) rfl wr.heap.size rfl _ #[I m.g,I m.op,I m.call,I m.bJ,I m.point,I m.bF,I m.fire,I m.re,I m.res.aJ,I m.res.case,I m.res.v,B m.res.ok,I m.res.n] rfl rfl ?_ ?_ ?_ ?_));go_step
   refine df rfl 46 (.tmp 7) (.tmp 14) rfl wr.heap.size rfl _ #[I m.g,I m.op,I m.call,I m.bJ,I m.point,I m.bF,I m.fire,I m.re,I m.res.aJ,I m.res.case,I m.res.v,B m.res.ok,I m.res.n] rfl rfl vS rfl (by simp[Value.oneCell']) ?_;go_upto_region 5 with fail
   obtain⟨w2,nt⟩:=dC (wr.alloc (.cells #[I m.g,I m.op,I m.call,I m.bJ,I m.point,I m.bF,I m.fire,I m.re,I m.res.aJ,I m.res.case,I m.res.v,B m.res.ok,I m.res.n] 46));obtain⟨mb,ny⟩:∃b,b=wr.heap.size:=⟨_,rfl⟩;rw[←nt,←ny];have kt:w2.heap[mb]?=some (.cells #[I m.g,I m.op,I m.call,I m.bJ,I m.point,I m.bF,I m.fire,I m.re,I m.res.aJ,I m.res.case,I m.res.v,B m.res.ok,I m.res.n] 46 (0,0)):=(by rw[nt,ny];exact dP _ _);have m0:w2.cell? ⟨mb,0,none⟩=some (I m.g):=(by rw[cr _ _ _ _ _ _ kt];rfl);have HO:Hid (w2.ownsRow w.heap.size 44 5 (.slice a k c) k (Af (oY (l.take j)))):=(by rw[nt];exact ou HW.out.2.1 rfl);have HB:Hid (Below w.heap.size w w2∧w.heap.size≤w2.heap.size):=(by rw[nt];exact⟨HW.out.2.2.alloc qq _,by simp;omega⟩);have tm:=ag kt;have HK:=ag HW.out.1;have Ga:=HB.out.2;clear nt ny kt HW HC;have xT:oY (l.take (j+1))=if m.g=1 then oY (l.take j)++[m.res]else oY (l.take j):=by rw[ox HM.out];exact M1 _ _
   by_cases hg:m.g=1
   ·rw[aF hg]at xT;have HT:=ag xT;rw[hg]at m0;clear xT hg;go_upto_region 6 with fail
    repeat(fail_if_success (refine wpList_load_mid rfl 44 (.tmp 20) rfl mb 8 rfl #[I m.res.aJ,I m.res.case,I m.res.v,B m.res.ok,I m.res.n] ?_ ?_ ?_ ?_));go_step
    refine wpList_load_mid rfl 44 (.tmp 20) rfl mb 8 rfl #[I m.res.aJ,I m.res.case,I m.res.v,B m.res.ok,I m.res.n] (fun q v hq=>by rw[cr _ _ _ _ _ _ tm.out];have hq5:q<5:=(dh hq).1;rcases(show q=0∨q=1∨q=2∨q=3∨q=4 by omega)with rfl|rfl|rfl|rfl|rfl<;>exact hq) PT zA ?_;go_wp2_with (at_builtin;go_loud (refine jw (us:=#[I m.res.aJ,I m.res.case,I m.res.v,B m.res.ok,I m.res.n]) (w2:=w2) rfl (.tmp 19) (.tmp 22) 69 rfl ag3 hi fV gF gG rfl (by decide) (by decide) rfl rfl (by simp[Value.oneCell']) (.slice a k c) k _ rfl HO.out rfl (by omega) Ga ?_));intro g cp w3 hown kX gp
    have KG:Hid (k+1=(oY (l.take (j+1))).length∧w3.ownsRow w.heap.size 44 5 (.slice (some ⟨g,0,none⟩) (k+1) cp) (k+1) (Af (oY (l.take (j+1))))∧Below w.heap.size w w3):=by
     rw[HT.out];refine⟨by rw[py,←HK.out];rfl,by rw[Cr];exact hown,?_⟩;refine(HB.out.1.alloc Ga _).grown kX (by simp;omega) (fun b hb=>?_);rcases HO.out.2 with⟨h1,h2⟩|⟨g',_,_,h1,h2,_⟩
     ·simp only[Value.slice.injEq]at h1;rw[h1.1]at hb;cases hb
     ·simp only[Value.slice.injEq]at h1;rw[h1.1]at hb;simp[Value.ownBlock]at hb;omega
    clear hown kX gp HO HB tm HK m0;go_wp2;go_roundw
    case rel=>exact⟨j+1,_,_,_,rfl,by go_num,by omega,KG⟩
    case measure=>simp[intOf];omega
   ·rw[aE hg]at xT;have HT:=ag xT;have EU:(m.g==1)=false:=(by simpa using hg);clear xT hg;have KG:Hid (k=(oY (l.take (j+1))).length∧w2.ownsRow w.heap.size 44 5 (.slice a k c) k (Af (oY (l.take (j+1))))∧Below w.heap.size w w2):=(by rw[HT.out];exact⟨HK.out,HO.out,HB.out.1⟩);clear HO HB tm HK;go_wp2;go_roundw
    case rel=>exact⟨j+1,_,_,_,rfl,by go_num,by omega,KG⟩
    case measure=>simp[intOf];omega
  ·obtain rfl:j=n:=by omega
   go_wp2;go_ret;obtain⟨h1,h2,h3⟩:=HW.out;rw[HN.out,List.take_length]at h1 h2;subst h1;exact⟨_,_,rfl,gC.tO h2,h3⟩
end Go.Proofs.YtadifmnmfnihdaaGreat
namespace Go.Proofs.YtadifmnmfnihdaaGreat
open Go.ChangeShapes Go.WideShapes Go.ChangeAt Go.RowKit Go.Deep Mach Go.Proofs.Tryz
theorem own:ownKnob prog.godebug=none:=by kernel_rfl
theorem laidOut:laidOutB prog=true:=by kernel_rfl
section
variable{H:Type}{enc:TypeId×Value→H}{W:World}
theorem QY{k:Int}(h:(Lit.int .i64 k).wf=true):pW k:=by
 simp[Lit.wf,IntKind.min,IntKind.max,IntKind.signed,IntKind.bits]at h;exact⟨by omega,by omega⟩
theorem Xd{k:Int}(h:(Lit.int .u16 k).wf=true):0≤k∧k≤65535:=by
 simp[Lit.wf,IntKind.min,IntKind.max,IntKind.signed,IntKind.bits]at h;exact⟨by omega,by omega⟩
theorem KU{T E f:Nat}{k:IntKind}{v:Value}{x:DataW H×List MemPlace}(ht:prog.underlying T=some (.slice E))(he:prog.underlying E=some (.int k))(hc:prog.cellsOf E=1)(hf:DataW.trod enc prog W 0 (fun _=>true) true f T [v]=some x):∃a n c,v=.slice a n c∧∃zs:List Int,n=zs.length∧Rd k W a zs∧∀z∈zs,(Lit.int k z).wf=true:=by
 rcases open_ints ht he hc hf with⟨fa,_⟩|⟨x,l,c',zs,fa,_,hl,hm,hz,_,j8,hwz⟩
 ·simp at fa;exact⟨_,_,_,fa,[],rfl,⟨by simp,fun h=>by simp at h⟩,by simp⟩
 ·simp at fa;have hzc:zs.length=c':=by simpa using hz
  have cP:(zs.take l).length=l:=by simp;omega
  refine⟨_,_,_,fa,zs.take l,cP.symm,⟨by rw[cP];unfold maxLen at hm;omega,fun h0=>?_⟩,fun z hz=>hwz z (List.mem_of_mem_take hz)⟩;obtain⟨b,off,spot⟩:=x;have Dj:=j8 0 (by omega);have Ag:spot=none:=by simpa[Addr.add]using World.cell?_spot Dj
  subst Ag;refine⟨b,off,rfl,fun j hj=>?_⟩;have Vr:j<l:=by omega
  have:=j8 j (by omega);rw[Addr.add_lit]at this;rw[this];simp[List.getD,Vr]
theorem oT{α:Type}{p:Nat→α→Prop}(n:Nat)(h:∀i,i<n→∃x,p i x):∃l:List α,l.length=n∧∀(i:Nat) x,l[i]?=some x→p i x:=by
 induction n with
 |zero=>exact⟨[],rfl,fun i x hi=>by simp at hi⟩
 |succ n ih=>
  obtain⟨l,hl,hp⟩:=ih fun i hi=>h i (by omega)
  obtain⟨x,hx⟩:=h n (by omega);refine⟨l++[x],by simp[hl],fun i y hi=>?_⟩;rcases Nat.lt_or_ge i n with h1|h1
  ·rw[Ev (by omega)]at hi;exact hp i y hi
  ·rw[Ew (by omega),hl]at hi;have kL:i-n<1:=by have:=cA hi;simpa using this
   obtain rfl:i=n:=by omega
   simp at hi;subst hi;exact hx
theorem sI{t f:Nat}{fs:Array Field}{cs:List Value}{x:DataW H×List MemPlace}(ht:prog.underlying t=some (.struct fs))(VZ:oneCellFields prog fs=true)(hd:DataW.trod enc prog W 0 (fun _=>true) true f t cs=some x):cs.length=prog.cellsOf t∧∀(j:Nat) (g:Field),fs[j]?=some g→∀v,cs[j]?=some v→∃n y,DataW.trod enc prog W 0 (fun _=>true) true n g.type [v]=some y:=by
 obtain⟨xs,n,_,_,cP,vI,hf⟩:=DataW.trod_struct ht hd;refine⟨cP,fun j g hg v hv=>?_⟩;obtain⟨ho,hk⟩:=hone_of VZ j g hg;have h1:=hf j g hg;have hj:j<xs.length:=by rw[vI];exact(dh hg).1
 rw[ho,hk,fv hj]at h1;have h2:(cs.drop j).take 1=[v]:=by obtain⟨Vr,rfl⟩:=uC hv;rw[List.drop_eq_getElem_cons Vr];rfl
 rw[h2]at h1;exact⟨n,_,h1⟩
theorem nF{T f:Nat}{v:Value}{x:DataW H×List MemPlace}(ht:prog.underlying T=some (.int .i64))(hd:DataW.trod enc prog W 0 (fun _=>true) true f T [v]=some x):∃z,v=I z∧pW z:=by
 obtain⟨z,hz,_,hw⟩:=DataW.trod_int ht hd;simp at hz;exact⟨z,hz,QY hw⟩
theorem QZ{T f:Nat}{v:Value}{x:DataW H×List MemPlace}(ht:prog.underlying T=some .bool)(hd:DataW.trod enc prog W 0 (fun _=>true) true f T [v]=some x):∃z,v=B z:=by
 obtain⟨z,hz,_⟩:=DataW.trod_bool ht hd;simp at hz;exact⟨z,hz⟩
theorem xm{w:World}{af k:Nat}{a:Addr}(hk:0<k)(h:∃cs,w.cells? af (a.add (0*k)) k=some cs):a.spot=none:=by
 obtain⟨cs,hc⟩:=h;obtain⟨_,hl,ks⟩:=World.cells?_some hc;have h0:=ks 0 hk;rw[fv (by omega)]at h0;simpa[Addr.add]using World.cell?_spot h0
theorem JI{f:Nat}{v:Value}{x:DataW H×List MemPlace}(hd:DataW.trod enc prog W 0 (fun _=>true) true f 47 [v]=some x):∃a n c,v=.slice a n c∧∃cs:List Case,n=cs.length∧gW W a cs:=by
 rcases open_slice underlying47 hd with⟨fa,_⟩|⟨a,n,c,m,n',D,Pl,fa,_,hl,hm,hmm,_,hi⟩
 ·simp at fa;exact⟨_,_,_,fa,[],rfl,by simp,fun j o hj=>by simp at hj⟩
 ·simp at fa;have hnm:n≤m:=by rw[hmm];split<;>omega
  obtain⟨l,El,pJ⟩:=oT (p:=fun j (o:Case)=>∃b off,some a=some (⟨b,off,none⟩:Addr)∧
    W.cell? ⟨b,off+j*3,none⟩=some (B o.cF)∧W.cell? ⟨b,off+j*3+1,none⟩=some (I o.ch)∧W.cell? ⟨b,off+j*3+2,none⟩=some (I o.v)∧pW o.ch∧pW o.v) n (fun j hj=>by
   obtain⟨cs',hc,NU⟩:=hi j (by omega);have h3:prog.cellsOf 52=3:=(by kernel_rfl);rw[h3]at hc;obtain⟨gm,hf⟩:=sI underlying52 (by kernel_rfl) NU;obtain⟨_,_,ks⟩:=World.cells?_some hc;rw[h3]at gm;match cs',gm with
   | [v0,v1,v2],_=>
    obtain⟨n0,y0,h0⟩:=hf 0 _ rfl v0 rfl;obtain⟨n1,y1,h1⟩:=hf 1 _ rfl v1 rfl;obtain⟨n2,y2,h2⟩:=hf 2 _ rfl v2 rfl;obtain⟨b0,rfl⟩:=QZ underlying4 h0;obtain⟨z1,rfl,i1⟩:=nF underlying3 h1;obtain⟨z2,rfl,i2⟩:=nF underlying2 h2;have Ag:=xm (by rw[h3];omega) ((hi 0 (by omega)).imp fun _ h=>h.1);obtain⟨b,off,spot⟩:=a;subst Ag;have e:=fun q (hq:q<3)=>ks q hq
    simp only[Addr.add_lit]at e;exact⟨⟨b0,z1,z2⟩,b,off,rfl,e 0 (by omega),e 1 (by omega),e 2 (by omega),i1,i2⟩)
  exact⟨_,_,_,fa,l,El.symm,by unfold maxLen at hm;omega,pJ⟩
theorem Q1{f:Nat}{v:Value}{x:DataW H×List MemPlace}(hd:DataW.trod enc prog W 0 (fun _=>true) true f 50 [v]=some x):∃a n c,v=.slice a n c∧∃cs:List cu,n=cs.length∧kC W a cs:=by
 rcases open_slice underlying50 hd with⟨fa,_⟩|⟨a,n,c,m,n',D,Pl,fa,_,hl,hm,hmm,_,hi⟩
 ·simp at fa;exact⟨_,_,_,fa,[],rfl,by simp,fun j o hj=>by simp at hj⟩
 ·simp at fa;have hnm:n≤m:=by rw[hmm];split<;>omega
  obtain⟨l,El,pJ⟩:=oT (p:=fun j (o:cu)=>∃b off x cx,some a=some (⟨b,off,none⟩:Addr)∧
    W.cell? ⟨b,off+j*6,none⟩=some (I o.ai)∧W.cell? ⟨b,off+j*6+1,none⟩=some (I o.ch)∧W.cell? ⟨b,off+j*6+2,none⟩=some (I o.n)∧W.cell? ⟨b,off+j*6+3,none⟩=some (I o.v)∧
    W.cell? ⟨b,off+j*6+4,none⟩=some (.slice x o.cases.length cx)∧W.cell? ⟨b,off+j*6+5,none⟩=some (B o.dG)∧gW W x o.cases∧pW o.ai∧pW o.ch∧pW o.n∧pW o.v) n (fun j hj=>by
   obtain⟨cs',hc,NU⟩:=hi j (by omega);have h6:prog.cellsOf 49=6:=(by kernel_rfl);rw[h6]at hc;obtain⟨gm,hf⟩:=sI underlying49 (by kernel_rfl) NU;obtain⟨_,_,ks⟩:=World.cells?_some hc;rw[h6]at gm;match cs',gm with
   | [v0,v1,v2,v3,v4,v5],_=>
    obtain⟨n4,y4,h4⟩:=hf 4 _ rfl v4 rfl;obtain⟨x,k,cx,rfl,cc,hk,mP⟩:=JI h4;obtain⟨n0,y0,h0⟩:=hf 0 _ rfl v0 rfl;obtain⟨n1,y1,h1⟩:=hf 1 _ rfl v1 rfl;obtain⟨n2,y2,h2⟩:=hf 2 _ rfl v2 rfl;obtain⟨n3,y3,h3⟩:=hf 3 _ rfl v3 rfl;obtain⟨n5,y5,h5⟩:=hf 5 _ rfl v5 rfl;obtain⟨z0,rfl,i0⟩:=nF underlying3 h0;obtain⟨z1,rfl,i1⟩:=nF underlying3 h1;obtain⟨z2,rfl,i2⟩:=nF underlying3 h2;obtain⟨z3,rfl,i3⟩:=nF underlying2 h3;obtain⟨b5,rfl⟩:=QZ underlying4 h5;have Ag:=xm (by rw[h6];omega) ((hi 0 (by omega)).imp fun _ h=>h.1);obtain⟨b,off,spot⟩:=a;subst Ag;have e:=fun q (hq:q<6)=>ks q hq
    simp only[Addr.add_lit]at e;subst hk;exact⟨⟨z0,z1,z2,z3,cc,b5⟩,b,off,x,cx,rfl,e 0 (by omega),e 1 (by omega),e 2 (by omega),e 3 (by omega),e 4 (by omega),e 5 (by omega),mP,i0,i1,i2,i3⟩)
  exact⟨_,_,_,fa,l,El.symm,by unfold maxLen at hm;omega,pJ⟩
theorem M3{f:Nat}{v:Value}{x:DataW H×List MemPlace}(hd:DataW.trod enc prog W 0 (fun _=>true) true f 22 [v]=some x):∃a n c,v=.slice a n c∧∃p:List (List cu),n=p.length∧eW W a p:=by
 rcases open_slice1 underlying22 (by kernel_rfl) hd with⟨fa,_⟩|⟨a',n,c',m,q,V,D,Pl,fa,_,hl,hm,hmm,_,hi⟩
 ·simp at fa;exact⟨_,_,_,fa,[],rfl,by simp,fun j o hj=>by simp at hj⟩
 ·simp at fa;have hnm:n≤m:=by rw[hmm];split<;>omega
  obtain⟨l,El,pJ⟩:=oT (p:=fun i (os:List cu)=>∃b off r c,some a'=some (⟨b,off,none⟩:Addr)∧W.cell? ⟨b,off+i,none⟩=some (.slice r os.length c)∧kC W r os) n (fun i kL=>by obtain⟨hc,ht⟩:=hi i (by omega);obtain⟨x,k,cx,hx,cs,hk,ho⟩:=Q1 ht;obtain⟨b,off,spot⟩:=a';have Ag:spot=none:=(by simpa[Addr.add]using World.cell?_spot (hi 0 (by omega)).1);subst Ag;rw[Addr.add_lit,hx,hk]at hc;exact⟨cs,b,off,x,cx,rfl,hc,ho⟩);exact⟨_,_,_,fa,l,El.symm,by unfold maxLen at hm;omega,pJ⟩
theorem JJ{r:Reach}{b0:Nat}{v:Value}{d:DataW H}{p:List MemPlace}(hv:Value.okWide prog W r b0 27 v)(hd:DataW.Trod enc prog W 0 (fun _=>true) true 27 v d p):∃a n ca x y da nd cd,v=.agg #[.slice a n ca,I x,I y,.slice da nd cd]∧∃(p:List (List cu)) (draws:List Int),n=p.length∧eW W a p∧nd=draws.length∧Rd .u16 W da draws∧∀z∈draws,0≤z∧z≤65535:=by
 obtain⟨cs,rfl,hsz⟩:=okWide_struct underlying27 hv;obtain⟨fuel,hf⟩:=hd;have h4:prog.cellsOf 27=4:=by kernel_rfl
 obtain⟨y0,y1,y2,n,_,_,h0,h1,h2⟩:=trod_struct3 underlying27 hf;obtain⟨l⟩:=cs;rw[h4]at hsz;match l,hsz with
 | [v0,v1,v2,v3],_=>
  have k1:prog.cellsOf 22=1:=by kernel_rfl
  have k2:prog.cellsOf 24=2:=by kernel_rfl
  have k3:prog.cellsOf 25=1:=by kernel_rfl
  simp only[Value.cells,k1,k2,k3,List.drop,List.take]at h0 h1 h2;obtain⟨a,n,ca,rfl,p,hn,hp⟩:=M3 h0;obtain⟨_,hf1⟩:=sI underlying24 (by kernel_rfl) h1;obtain⟨n0,z0,g0⟩:=hf1 0 _ rfl v1 rfl;obtain⟨n1,z1,g1⟩:=hf1 1 _ rfl v2 rfl;obtain⟨x,rfl,_⟩:=nF underlying3 g0;obtain⟨y,rfl,_⟩:=nF underlying3 g1;obtain⟨da,nd,cd,rfl,draws,fX,jF,hw⟩:=KU underlying25 (k:=.u16) (by first|exact underlying65|kernel_rfl) (by kernel_rfl) h2;exact⟨a,n,ca,x,y,da,nd,cd,rfl,p,draws,hn,hp,fX,jF,fun z hz=>Xd (hw z hz)⟩
theorem M4{r:Reach}{b0:Nat}{v:Value}{d:DataW H}{p:List MemPlace}(hv:Value.okWide prog W r b0 28 v)(hd:DataW.Trod enc prog W 0 (fun _=>true) true 28 v d p):∃a n c,v=.slice a n c∧∃zs:List Int,n=zs.length∧Rd .i64 W a zs∧∀z∈zs,-9223372036854775808≤z∧z≤9223372036854775807:=by
 obtain⟨a,n,c,rfl⟩:=okWide_slice underlying28 hv;obtain⟨f,hf⟩:=hd;obtain⟨a',n',c',e,zs,h1,h2,h3⟩:=KU underlying28 underlying3 (by kernel_rfl) (by simpa[Value.cells]using hf);simp at e;obtain⟨rfl,rfl,rfl⟩:=e;exact⟨a,n,c,rfl,zs,h1,h2,fun z hz=>QY (h3 z hz)⟩
end
end Go.Proofs.YtadifmnmfnihdaaGreat
