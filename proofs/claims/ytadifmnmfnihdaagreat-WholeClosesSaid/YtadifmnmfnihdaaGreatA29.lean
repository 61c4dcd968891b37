import Derived.Test.YtadifmnmfnihdaaGreatA27
import Derived.Test.YtadifmnmfnihdaaGreatA28
set_option linter.all false
set_option maxRecDepth 100000
set_option maxHeartbeats 40000000
namespace Go.Proofs.YtadifmnmfnihdaaGreat
open Go.RowKit Mach Go.Proofs.Tryz
theorem GW(w:World):Calls prog 39 #[I 0] w (eL (.bool false) fun w'=>w=w'):=by
 go_enter func39,ntmps39;exact aW5
section
variable(b c:Nat)(w:World)(h:w.cell? ⟨b,0,none⟩=some (I 0))
include b c w h
theorem GX:Calls prog 73 #[.slice (some ⟨b,0,none⟩) 1 c,.func (.func 39) #[] #[]] w (eL (I (-1)) fun w'=>w=w'):=by
 have HI:=ag GW;go_enter func73,ntmps73;go_wp2;go_loopw [4,5,8] (fun r v i wr=>∃k:Nat,i=.int .i64 k∧k≤1∧wr=w) (fun r v i _=>1-(intOf i).toNat)
 case atStart=>exact⟨0,rfl,oX,rfl⟩
 case round=>
  obtain⟨k,rfl,hk,rfl⟩:=hrel;by_cases dD:k<1
  ·obtain rfl:k=0:=by omega
   go_wp2_with (go_at_call 39;refine(HI _).mono ?_;rintro e w2 ⟨rfl,rfl⟩);exact bg5
  ·obtain rfl:k=1:=by omega
   exact aW5
theorem Am:Calls prog 40 #[.slice (some ⟨b,0,none⟩) 1 c,.func (.func 39) #[] #[]] w (eL (.bool false) fun w'=>w=w'):=by
 have HI:=ag (GX b c w h);clear h;go_enter func40,ntmps40;go_wp2_with (go_at_call 73;refine HI.out.mono ?_;rintro e w2 ⟨rfl,rfl⟩);go_ret;exact⟨rfl,rfl⟩
end
theorem KY{n:Nat}:∀(As:List (List Value)) (j q:Nat) (A:List Value),(∀A∈As,A.length=n)→As[j]?=some A→q<n→As.flatten[j*n+q]?=A[q]?
 | [],j,q,A,_,h,_=>bk0
 |B::As,0,q,A,hl,h,hq=>by simp at h;subst h;rw[List.flatten_cons,Ev (by rw[hl B (rn ..)];omega),Nat.zero_mul,Nat.zero_add]
 |B::As,j+1,q,A,hl,h,hq=>by have hB:=hl B (rn ..);rw[List.flatten_cons,Ew (by rw[hB,Nat.add_mul];omega),hB,show(j+1)*n+q-n=j*n+q by rw[Nat.add_mul];omega];exact KY As j q A (fun C hC=>hl C (nO _ hC)) bj3 hq
theorem Uo{w:World}{b j:Nat}{v:Value}(h:w.cell? ⟨b,j,none⟩=some v):b<w.heap.size:=by
 exact bd4
theorem Ri{ls:List (List Nat)}{w2 w3 W:World}{sa ma da xa ga ca ha0:Option Addr}{As:List (List Value)}{Vs:List Value}{Ds:List (List Value)}(H:yS (V.gj ev 2 1 []) ls w2 w3 sa ma da xa ga ca ha0 As Vs Ds)(hK:lO w2.heap.size w3 W){hb:Nat}(hc:∀(q:Nat) v,(#[I 0,.slice none 0 0,B false,I (-1),.slice none 0 0,.slice none 0 0]:Array Value)[q]?=some v→W.cell? ⟨hb,q,none⟩=some v):Cs W ga (some ⟨hb,0,none⟩) sa ca:=by
 have hla:As.length=2:=H.la;have hlv:Vs.length=2:=H.lv;have P:=H.rd W hK;obtain⟨gb,rB,rfl,hg⟩:=H.gs W hK (by show 0<2;omega);obtain⟨cb,uq,rfl,hca⟩:=H.aC W hK (by show 0<2;omega)
 have Rj:∀j,j<2→∃a c,W.cell? ⟨cb,uq+j,none⟩=some (.slice a 0 c):=fun j hj=>by
  obtain⟨v,hv⟩:∃v,Vs[j]?=some v:=⟨_,fv oX⟩;obtain⟨x,hx⟩:∃x,(V.gj ev 2 1 []).Eg.aC[j]?=some x:=⟨_,fv (by show j<2;exact hj)⟩;obtain⟨a,cp,rfl,_⟩:=P.aC j x v hx hv;have Hm:x=[]:=by have hx:([[],[]]:List (List Int))[j]?=some x:=hx;rcases(show j=0∨j=1 by omega)with rfl|rfl<;>(simp at hx;exact hx)
  subst Hm;exact⟨a,cp,hca j _ hv⟩
 obtain⟨a0,c0,k0⟩:=Rj 0 oX;obtain⟨a1,c1,k1⟩:=Rj 1 oX;refine⟨⟨gb,rB,rfl,fun j l hl=>?_⟩,⟨hb,0,rfl,fun q v hv=>by rw[Nat.zero_add];exact hc q v hv⟩,P.Rw,⟨cb,uq,a0,c0,a1,c1,rfl,Uo k0,k0,k1⟩⟩;have hj:j<2:=cA hl;obtain⟨A,hA⟩:∃A,As[j]?=some A:=⟨_,fv oX⟩;have hx:(V.gj ev 2 1 []).gs[j]?=some (V.jQ l):=by show(ev.map V.jQ)[j]?=_;rw[na,hl];rfl
 obtain⟨oa,oc,b1,d1,b2,d2,b3,d3,b4,d4,hAA,jF,_⟩:=P.gs j _ A hx hA;have jf:bU (V.gj ev 2 1 []).ax j=0∧token (V.gj ev 2 1 []).ax j=false:=by rcases(show j=0∨j=1 by omega)with rfl|rfl<;>exact⟨rfl,rfl⟩
 rw[jf.1,jf.2]at hAA;refine⟨oa,oc,b1,d1,b2,d2,b3,d3,b4,d4,fun q v hv=>?_,jF⟩;have hq:q<25:=(dh hv).1;have:=hg (j*25+q) v (by rw[KY As j q A H.a25 hA hq,hAA];have e:(yP (V.jQ l) 0 false (.slice oa (V.jQ l).ops.length oc) (.slice b1 (V.jQ l).aH.length d1) (.slice b2 (V.jQ l).aq.length d2) (.slice b3 (V.jQ l).bA.length d3) (.slice b4 (V.jQ l).wakes.length d4))=(gA l oa oc b1 d1 b2 d2 b3 d3 b4 d4).toList:=rfl;rw[e];simpa using hv);rw[←Nat.add_assoc]at this;exact this
theorem GY{af eb:Nat}{F:Fx}{w2:World}{m:Mem}(R:bz af F w2 m (V.gj ev 2 1 []))(he:w2.heap[eb]?=some (.cells #[.pointer (some ⟨F.al,0,none⟩)] 78 (0,0))):Calls prog 10 #[.pointer (some ⟨eb,0,none⟩)] w2 fun e w'=>∃ls sa sc ma mc da dc xa xc ga gc ca cc As Vs Ds,e=.returned (.agg #[I 2,I 1,I 0,.slice ga 2 gc,.slice none 0 0,.slice sa 2 sc,.slice ca 2 cc,.slice ma 0 mc,I 0,.slice da 0 dc,I 0,.slice xa 0 xc])∧yS (V.gj ev 2 1 []) ls w2 w' sa ma da xa ga ca none As Vs Ds:=by
 obtain⟨ls,hs⟩:=(V.wI vx (N:=2) oX (most:=1) oX [] dX).Um uo oX;refine(pU R hs he).mono ?_;rintro e w' ⟨sa,sc,ma,mc,da,dc,xa,xc,ga,gc,ca,cc,ha,hc,As,Vs,Ds,rfl,hr,h0⟩;obtain⟨rfl,rfl⟩:=h0 rfl;exact⟨ls,sa,sc,ma,mc,da,dc,xa,xc,ga,gc,ca,cc,As,Vs,Ds,rfl,hr⟩
theorem M9(a:Option Addr)(c b:Nat)(w:World)(hp:aH1 w a ev)(yU:w.cell? ⟨b,0,none⟩=some (I 0)):Calls prog 20 #[.slice a 2 c,.agg #[I 2,I 1],.slice none 0 0,.slice (some ⟨b,0,none⟩) 1 1] w fun e w'=>∃F m eb lo,e=.returned (.tuple #[.pointer (some ⟨eb,0,none⟩),I 0])∧bz lo F w' m pV∧w.heap.size≤lo∧Below w.heap.size w w'∧w'.heap[eb]?=some (.cells #[.pointer (some ⟨F.al,0,none⟩)] 78 (0,0))∧w.heap.size≤eb∧∀r,m.aV r≠some eb:=by
 obtain⟨i5,yi,yz0,yz1,yz2⟩:=info_parts Tryz.Kf;have CM:Below w.heap.size w (w.alloc (.cells #[I 2,I 1] 24)):=(fp _ _).alloc cG _;have HN:Hid (Calls prog 23 #[.slice a 2 c,.agg #[I 2,I 1],.slice none 0 0] (w.alloc (.cells #[I 2,I 1] 24)) fun e w'=>∃F m eb,e=.returned (.tuple #[.pointer (some ⟨eb,0,none⟩),I 0])∧bz ((w.alloc (.cells #[I 2,I 1] 24)).heap.size+1) F w' m (V.gj ev 2 1 [])∧Below w.heap.size w w'∧w'.heap[eb]?=some (.cells #[.pointer (some ⟨F.al,0,none⟩)] 78 (0,0))):=by refine(Ai ev 2 rfl a c 2 1 [] 0 rfl none 0 (w.alloc (.cells #[I 2,I 1] 24)) (hp.below CM cG) dX dX ⟨dX,fun h=>bj5⟩ oX (fun z hz=>by cases hz)).mono ?_;rintro e w' ⟨F,m,eb,rfl,R,hb,he,_,_⟩;exact⟨F,m,eb,rfl,R,CM.trans (hb.mono sX),he⟩
 have XP:Hid (∀W,Below w.heap.size w W→Calls prog 40 #[.slice (some ⟨b,0,none⟩) 1 1,.func (.func 39) #[] #[]] W fun e w'=>e=.returned (.bool false)∧W=w'):=fun W hb=>Am b 1 W (cw hb cG _ _ yU)
 have av7:=ag yU;clear hp yU CM;go_enter func20,ntmps20
 go_upto_region 7 with(first
  |(go_at_call 23;refine HN.out.mono ?_;rintro e w2 ⟨F,m,eb,rfl,R,hb,he⟩;have HR:=ag (dO R (dO hb he));clear R hb he)
  |(go_at_call 40;refine(XP _ HR.out.2.1).mono ?_;rintro e w3 ⟨rfl,rfl⟩))
 have pI:=ag (GY HR.out.1 HR.out.2.2)
 go_upto_region 8 with(first
  |(go_at_call 10;refine pI.out.mono ?_;rintro e w3 ⟨ls,sa,sc,ma,mc,da,dc,xa,xc,ga,gc,ca,cc,As,Vs,Ds,rfl,hr⟩;have Bg:=ag hr;clear hr)
  |(refine df rfl 41 (.tmp 13) (.tmp 35) rfl w3.heap.size rfl _ #[I 2,I 1,I 0,.slice ga 2 gc,.slice none 0 0,.slice sa 2 sc,.slice ca 2 cc,.slice ma 0 mc,I 0,.slice da 0 dc,I 0,.slice xa 0 xc] rfl rfl jB rfl bi9 ?_))
 dsimp only[Act.put];obtain⟨w4,xX⟩:=dC (w3.alloc (.cells #[I 2,I 1,I 0,.slice ga 2 gc,.slice none 0 0,.slice sa 2 sc,.slice ca 2 cc,.slice ma 0 mc,I 0,.slice da 0 dc,I 0,.slice xa 0 xc] 41));obtain⟨sb,mB⟩:∃b,b=w3.heap.size:=⟨_,rfl⟩;rw[←xX,←mB];have h0:Hid (w4.heap[sb]?=some (.cells #[I 2,I 1,I 0,.slice ga 2 gc,.slice none 0 0,.slice sa 2 sc,.slice ca 2 cc,.slice ma 0 mc,I 0,.slice da 0 dc,I 0,.slice xa 0 xc] 41 (0,0))∧Below w3.heap.size w3 w4):=by refine⟨by rw[xX,mB];exact dP _ _,by rw[xX];exact(fp _ _).alloc cG _⟩
 have Bm:Hid (sb=w3.heap.size):=mB;clear xX mB pI HN XP;go_wp2_with fail
 go_loopw [38] (fun i wr=>∃(k:Nat) (va:Option Addr) (vc:Nat),i=.int .i64 k∧k≤1∧Hid (wr.heap[sb]?=some (.cells #[I 2,I 1,I 0,.slice ga 2 gc,.slice va k vc,.slice sa 2 sc,.slice ca 2 cc,.slice ma 0 mc,I 0,.slice da 0 dc,I 0,.slice xa 0 xc] 41 (0,0))∧Below w3.heap.size w3 wr∧(k=0→va=none∧vc=0)∧(k=1→∃hb,va=some ⟨hb,0,none⟩∧∀(q:Nat) v,(#[I 0,.slice none 0 0,B false,I (-1),.slice none 0 0,.slice none 0 0]:Array Value)[q]?=some v→wr.cell? ⟨hb,q,none⟩=some v))) (fun i _=>1-(intOf i).toNat)
 case atStart=>exact⟨0,none,0,rfl,oX,⟨h0.out.1,h0.out.2,(fun _=>⟨rfl,rfl⟩),(fun h=>aX h dX)⟩⟩
 case round=>
  clear h0;obtain⟨k,va,vc,rfl,hk,HW⟩:=hrel;have qq:w3.heap.size≤wr.heap.size:=HW.out.2.1.size;have GV:Below w.heap.size w wr:=HR.out.2.1.trans ((Bg.out.below.trans (HW.out.2.1.mono Bg.out.below.size)).mono HR.out.2.1.size);by_cases dD:k<1
  ·obtain rfl:k=0:=by omega
   obtain⟨rfl,rfl⟩:=HW.out.2.2.1 rfl;have hx:=HW.out.1;have c4:wr.cell? ⟨sb,4,none⟩=some (.slice none 0 0):=bk5;have f4:=iM wr sb 4 _ _ hx;have cc0:wr.cell? ⟨b,0,none⟩=some (I 0):=cw GV cG _ _ av7;have NB:sb<wr.heap.size:=(dh hx).1;clear hx GV;go_upto_region 12 with(at_builtin;go_loud (refine jw (us:=#[I 0,.slice none 0 0,B false,I (-1),.slice none 0 0,.slice none 0 0]) (w2:=wr) rfl (.tmp 43) (.tmp 46) 36 rfl UM yi yz0 yz1 yz2 rfl dX dX rfl rfl bi9 (.slice none 0 0) 0 [] rfl (World.ownsRow_nil _ w3.heap.size _ _) rfl oX qq ?_);intro gg cp w9 hown hgr gp;have oz:w9.heap[sb]?=wr.heap[sb]?:=(by rw[hgr.block sb bi8 (fun e=>by cases e),gf _ _ _ NB]);have d4:w9.cell? ⟨sb,4,none⟩=some (.slice none 0 0):=(kZ oz).trans c4;have fd4:w9.frozen? ⟨sb,4,none⟩=false:=(xp oz).trans f4;have H9:=ag (dO hown (dO hgr (dO gp oz)));clear hown hgr gp oz)
   have HN:Hid ((w9.setCell ⟨sb,4,none⟩ (.slice (some ⟨gg,0,none⟩) 1 cp)).heap[sb]?=some (.cells #[I 2,I 1,I 0,.slice ga 2 gc,.slice (some ⟨gg,0,none⟩) 1 cp,.slice sa 2 sc,.slice ca 2 cc,.slice ma 0 mc,I 0,.slice da 0 dc,I 0,.slice xa 0 xc] 41 (0,0))∧Below w3.heap.size w3 (w9.setCell ⟨sb,4,none⟩ (.slice (some ⟨gg,0,none⟩) 1 cp))∧(∃hb,(some ⟨gg,0,none⟩:Option Addr)=some ⟨hb,0,none⟩∧∀(q:Nat) v,(#[I 0,.slice none 0 0,B false,I (-1),.slice none 0 0,.slice none 0 0]:Array Value)[q]?=some v→(w9.setCell ⟨sb,4,none⟩ (.slice (some ⟨gg,0,none⟩) 1 cp)).cell? ⟨hb,q,none⟩=some v)):=by
    obtain⟨hown,hgr,gp,oz⟩:=H9.out;have hle:w3.heap.size≤sb:=by rw[Bm.out];exact Nat.le_refl _
    have Rq:gg≠sb:=by
     rcases gp with h|h
     ·cases h
     ·simp at h;omega
    refine⟨?_,?_,gg,rfl,fun q v hv=>?_⟩
    ·have:=heap_setCell_same w9 sb 4 _ 41 (.slice (some ⟨gg,0,none⟩) 1 cp) (oz.trans HW.out.1);exact this
    ·exact((HW.out.2.1.alloc qq _).grown hgr bi8 (fun b hb=>by cases hb)).setCell (p:=⟨sb,4,none⟩) hle _
    ·rw[kZ (w:=w9) (a:=⟨gg,q,none⟩) (fQ _ _ _ _ (by simpa using Rq))];obtain⟨b',VK,e,hc⟩:=gC.tO hown oX
     cases e;have:=hc q v (by simpa using hv);rw[Nat.zero_add]at this;exact this
   clear H9 HW c4 f4 cc0 qq;go_wp2;go_roundw
   case rel=>exact⟨1,_,_,rfl,oX,⟨HN.out.1,HN.out.2.1,(fun h=>aX h dX),(fun _=>HN.out.2.2)⟩⟩
   case measure=>simp[intOf]
  ·obtain rfl:k=1:=by omega
   obtain⟨hx,Hl,_,h1⟩:=HW.out;obtain⟨hb,rfl,hc⟩:=h1 rfl;have HE:=ag (JQ ga (some ⟨hb,0,none⟩) sa ca ma da xa gc vc sc cc mc dc xc wr (Ri Bg (fun b _ h2=>Hl.block b h2) hc));have HX:=ag (dO hx GV);clear hx Hl h1 hc HW GV;go_upto_region 13 with fail
   refine wp_region_lit ?_;refine wpList_load_mid rfl 41 (.tmp 13) rfl sb 0 rfl #[I 2,I 1,I 0,.slice ga 2 gc,.slice (some ⟨hb,0,none⟩) 1 vc,.slice sa 2 sc,.slice ca 2 cc,.slice ma 0 mc,I 0,.slice da 0 dc,I 0,.slice xa 0 xc] (fun q v hq=>bu9) uV jB ?_;go_wp2_with (go_at_call 41;refine HE.out.mono ?_;rintro e w9 ⟨F9,m9,eb9,rfl,hr9⟩;have H9:=ag hr9;clear hr9);go_ret2;obtain⟨R9,ZP,he9,aC2,hn9⟩:=H9.out;have hs:=HX.out.2.size;exact⟨F9,m9,eb9,_,rfl,R9,oX,HX.out.2.trans (ZP.mono hs),he9,oX,hn9⟩
theorem aH1.toN{w:World}{a:Option Addr}{p:List (List cu)}(h:aH1 w a p):nZ w a (p.map fun l=>l.map fun o=>o.cases.length):=by
 refine⟨by rw[ko];exact h.1,fun i hi=>?_⟩;rw[ko]at hi;obtain⟨l,hl⟩:∃l,p[i]?=some l:=⟨_,fv hi⟩;have e:(p.map fun l=>l.map fun o=>o.cases.length).getD i []=l.map fun o=>o.cases.length:=by rw[yk,na,hl];rfl
 rw[e];obtain⟨b,off,r,c,e1,h1,h2⟩:=h.2 i l hl;refine⟨b,off,r,c,e1,by rw[ko];exact h1,by rw[ko];exact h2.1,fun j hj=>?_⟩;rw[ko]at hj;obtain⟨o,ho⟩:∃o,l[j]?=some o:=⟨_,fv hj⟩;have e2:(l.map fun o=>o.cases.length).getD j 0=o.cases.length:=by rw[yk,na,ho];rfl
 rw[e2];obtain⟨b2,ah6,x,cx,e3,k0,k1,k2,k3,k4,k5,k6,_⟩:=h2.2 j o ho;exact⟨b2,ah6,_,_,_,_,x,cx,_,e3,k0,k1,k2,k3,k4,k5,k6.1⟩
theorem GZ(a:Option Addr)(c:Nat)(w:World)(h:aH1 w a ev):Calls prog 12 #[.slice a 2 c,I 2] w (eL (I 198) (Below w.heap.size w)):=by
 have hn:(ev.map fun l=>l.map fun o=>o.cases.length)=[[0,0],[0,0]]:=rfl;have h1:=h.toN;rw[hn]at h1
 have hs:Small [[0,0],[0,0]]:=by
  refine⟨dX,fun i hi=>?_⟩;have hi:i<2:=hi;rcases(show i=0∨i=1 by omega)with rfl|rfl
  all_goals
   refine⟨dX,fun j hj=>?_⟩;have hj:j<2:=hj;rcases(show j=0∨j=1 by omega)with rfl|rfl<;>decide
 refine(Hv [[0,0],[0,0]] 2 rfl a c 2 w h1 hs).mono ?_;rintro e w' ⟨⟨b,rfl,hb⟩,hB⟩
 have EI:¬Ln [[0,0],[0,0]] 2:=by
  rintro(h|h|h|⟨i,hi,h⟩)
  ·omega
  ·omega
  ·simp at h
  ·have hi:i<2:=hi;rcases(show i=0∨i=1 by omega)with rfl|rfl
   all_goals
    rcases h with h|⟨j,hj,h⟩
    ·simp at h
    ·have hj:j<2:=hj;rcases(show j=0∨j=1 by omega)with rfl|rfl<;>simp at h
 have hb:=hb.2 EI;refine⟨?_,hB⟩;rw[hb];rfl
theorem Rk{S:Wd}(h:Rg S=true):∃r0 r1:nP,oY S.done=[r0,r1]∧r0.v=9∧r0.ok=true∧r1.ok=false:=by
 unfold Rg at h;split at h
 ·rename_i r0 r1 he;simp only[qs,beq_iff_eq,Bool.not_eq_true']at h;exact⟨r0,r1,he,h.1.1,h.1.2,h.2⟩
 ·cases h
theorem JR(w:World):Calls prog 6 #[] w (oV (Below w.heap.size w)):=by
 have CM:Below w.heap.size w (w.alloc (.cells #[I 9] 2)):=(fp _ _).alloc cG _;have HPS:Hid (Calls prog 19 #[.slice (some ⟨w.heap.size,0,none⟩) 1 1] (w.alloc (.cells #[I 9] 2)) fun e w'=>∃a c,e=.returned (.slice a 2 c)∧aH1 w' a ev∧Below w.heap.size w w'):=by refine(zo w.heap.size (w.alloc (.cells #[I 9] 2)) (by rw[cr _ _ _ _ _ _ (dP _ _)];rfl)).mono ?_;rintro e w' ⟨a,c,rfl,h1,h2⟩;exact⟨a,c,rfl,h1,CM.trans (h2.mono sX)⟩
 clear CM;go_enter func6,ntmps6;go_upto_region 2 with(go_at_call 19;refine HPS.out.mono ?_;rintro e w2 ⟨a,c,rfl,h1,h2⟩;have HP:=ag (dO h1 h2);clear h1 h2)
 have Yr:Hid (Calls prog 20 #[.slice a 2 c,.agg #[I 2,I 1],.slice none 0 0,.slice (some ⟨w2.heap.size,0,none⟩) 1 1] (w2.alloc (.cells #[I 0] 3)) fun e w'=>∃F m eb lo,e=.returned (.tuple #[.pointer (some ⟨eb,0,none⟩),I 0])∧bz lo F w' m pV∧w.heap.size≤lo∧Below w.heap.size w w'∧aH1 w' a ev∧w'.heap[eb]?=some (.cells #[.pointer (some ⟨F.al,0,none⟩)] 78 (0,0))∧∀r,m.aV r≠some eb):=by have G5:Below w2.heap.size w2 (w2.alloc (.cells #[I 0] 3)):=(fp _ _).alloc cG _;have hs:=HP.out.2.size;refine(M9 a c w2.heap.size (w2.alloc (.cells #[I 0] 3)) (HP.out.1.below G5 cG) (by rw[cr _ _ _ _ _ _ (dP _ _)];rfl)).mono ?_;rintro e w' ⟨F,m,eb,lo,rfl,R,hl,hb,he,_,hn⟩;simp at hl;exact⟨F,m,eb,lo,rfl,R,oX,HP.out.2.trans ((G5.trans (hb.mono sX)).mono hs),(HP.out.1.below G5 cG).below hb cG,he,hn⟩
 clear HPS;go_upto_region 5 with(go_at_call 20;refine Yr.out.mono ?_;rintro e w3 ⟨F,m,eb,lo,rfl,R,hl,hb,hp,he,hn⟩;have H3:=ag (dO R (dO hl (dO hb (dO hp (dO he hn)))));clear R hl hb hp he hn)
 have HBD:=ag (GZ a c w3 H3.out.2.2.2.1);have GN:Hid (∀W,Below w3.heap.size w3 W→Calls prog 11 #[.pointer (some ⟨eb,0,none⟩),.slice none 0 0,I 2,I 198] W fun e w'=>∃la j lc S,e=.returned (.tuple #[.slice la j lc,.bool true])∧Rg S=true∧S.done.length≤900000∧(∃ls,tc S ls)∧Below w.heap.size w w'∧w'.heap[eb]?=some (.cells #[.pointer (some ⟨F.al,0,none⟩)] 78 (0,0))∧∃m,bz lo F w' m S):=fun W hb=>by obtain⟨R,hl,hbw,_,he,hn⟩:=H3.out;have R4:=R.below hb;have heW:W.heap[eb]?=some (.cells #[.pointer (some ⟨F.al,0,none⟩)] 78 (0,0)):=(hb.block eb (dh he).1).trans he;have T:TB lo F m W pV [(eb,.cells #[.pointer (some ⟨F.al,0,none⟩)] 78)] W:=⟨m,At.refl R4,fun p hp=>by rw[List.mem_singleton]at hp;subst hp;exact⟨heW,hn⟩⟩;refine(JN Ee T (List.mem_singleton.2 rfl) QA.start ⟨oX,oX⟩ oX oX 0).mono ?_;rintro e w' ⟨la,j,lc,S,f,hQ,r9,rfl,m',X⟩;obtain⟨hr,hf⟩:=hQ.fin r9;have GV:Below w.heap.size w W:=hbw.trans (hb.mono hbw.size);refine⟨la,j,lc,S,by rw[hr];rfl,hf,by have:=hQ.1.1.len;have:=hQ.2.1;omega,hQ.1.Um uo (by have:=hQ.2.1;omega),?_,(X.loc _ (List.mem_singleton.2 rfl)).1,m',X.at_.bj⟩;refine⟨X.at_.mv.os.trans GV.os,X.at_.mv.tape.trans GV.tape,X.at_.mv.output.trans GV.output,jm GV.size X.at_.mv.size,fun b hb=>?_⟩;rw[X.at_.mv.keep b (by have:=GV.size;omega) (fun r e=>by have:=(R4.lies r b e).1;omega)];exact GV.block b hb
 clear Yr HP
 go_upto_region 6 with(first
  |(go_at_call 12;refine HBD.out.mono ?_;rintro e w4 ⟨rfl,R8⟩)
  |(go_at_call 11;refine(GN _ R8).mono ?_;rintro e w5 ⟨la,j,lc,S,rfl,hf,hd,jf,hb,he,hR⟩;have H5:=ag (dO hf (dO hd (dO jf (dO hb (dO he hR)))));clear hf hd jf hb he hR R8))
 have pI:Hid (Calls prog 10 #[.pointer (some ⟨eb,0,none⟩)] w5 fun e w'=>∃sa sc ma mc da dc xa xc ga gc ca cc ha hc,e=.returned (.agg #[I S.dV,I S.eT,I S.av,.slice ga S.gs.length gc,.slice ha S.au.length hc,.slice sa S.ah.length sc,.slice ca S.gs.length cc,.slice ma S.Eg.aK.length mc,I S.Eg.cO,.slice da S.draws.length dc,I S.drawn,.slice xa S.done.length xc])∧Below w.heap.size w w'∧gC w' xa S.done.length (bT ib 0 S.done)):=by obtain⟨hf,hd,⟨ls,jf⟩,hb,he,m5,R⟩:=H5.out;refine(pU R jf he).mono ?_;rintro e w' ⟨sa,sc,ma,mc,da,dc,xa,xc,ga,gc,ca,cc,ha,hc,As,Vs,Ds,rfl,hr,_⟩;exact⟨sa,sc,ma,mc,da,dc,xa,xc,ga,gc,ca,cc,ha,hc,rfl,hb.trans (hr.below.mono hb.size),(hr.rd w' (fun b _ _=>rfl)).done⟩
 go_upto_region 7 with(first
  |(go_at_call 10;refine pI.out.mono ?_;rintro e w6 ⟨sa,sc,ma,mc,da,dc,xa,xc,ga,gc,ca,cc,ha,hc,rfl,hb,mj⟩;have H6:=ag (dO hb mj);clear hb mj)
  |(go_at_call 21;refine(QX _ _ _ _ _ _ _ _ _ _ _ S.done S.done.length rfl H5.out.2.1 xa xc w6 H6.out.2 bi9).mono ?_;rintro e w7 ⟨ra,rc,rfl,mj,hb⟩;have H7:=ag (dO mj hb);clear mj hb))
 obtain⟨r0,r1,hg,v0,k0,k1⟩:=Rk H5.out.1;rw[hg];obtain⟨rb,Up,rfl,hc⟩:=H7.out.1 (by rw[hg];exact Nat.succ_pos 1);have g2:w7.cell? ⟨rb,Up+2,none⟩=some (I 9):=by rw[hc 2 (I 9) (by rw[hg,←v0];rfl)]
 have g3:w7.cell? ⟨rb,Up+3,none⟩=some (B true):=by rw[hc 3 (B true) (by rw[hg,←k0];rfl)]
 have g8:w7.cell? ⟨rb,Up+8,none⟩=some (B false):=by rw[hc 8 (B false) (by rw[hg,←k1];rfl)]
 have g8':w7.cell? ⟨rb,Up+5+3,none⟩=some (B false):=g8;have HB:Hid (Below w.heap.size w w7):=H6.out.1.trans (H7.out.2.mono H6.out.1.size);clear hc;go_wp2;go_ret;exact⟨rfl,HB⟩
structure An(w w':World)(p:List (List cu))(draws:List Int)(k:Nat)(eb af:Nat)(F:Fx)(m:Mem)(S:Wd):Prop where
 row:V.xK p draws k S
 below:Below w.heap.size w w'
 Rl:w.heap.size≤af
 eng:w'.heap[eb]?=some (.cells #[.pointer (some ⟨F.al,0,none⟩)] 78 (0,0))
 bj:bz af F w' m S
 ne:∀r,m.aV r≠some eb
theorem aP6{w:World}{a:Option Addr}{p:List (List cu)}(h:aH1 w a p)(hp:im p=true):∀l∈p,CY l:=by
 intro l hl;obtain⟨i,hi,rfl⟩:=List.getElem_of_mem hl;obtain⟨b,off,r,c,_,_,ho⟩:=h.2 i _ (fv hi);obtain⟨hsz,hsm,eK⟩:=kH hp;have aC3:=(eK.row _ hl);refine⟨oX,fun o UE=>?_⟩;obtain⟨j,hj,rfl⟩:=List.getElem_of_mem UE;obtain⟨b2,ah6,x,cx,_,_,_,_,_,_,_,hc,i1,i2,i3,i4⟩:=ho.2 j _ (fv hj);refine⟨i1,i2,i3,i4,?_,fun c xz=>?_⟩
 ·have:=(eK.ops _ hl _ UE).cl;omega
 ·obtain⟨q,hq,rfl⟩:=List.getElem_of_mem xz;obtain⟨_,_,_,_,_,_,h1,h2⟩:=hc.2 q _ (fv hq);exact⟨h1,h2⟩
theorem An.tb{w w':World}{p:List (List cu)}{draws:List Int}{k eb af:Nat}{F:Fx}{m:Mem}{S:Wd}(E:An w w' p draws k eb af F m S){L:List (Nat×Obj)}(hL:∀x∈L,x.1<w.heap.size∧w.heap[x.1]?=some x.2):TB af F m w' S ((eb,.cells #[.pointer (some ⟨F.al,0,none⟩)] 78)::L) w':=⟨m,At.refl E.bj,fun x hx=>by
 rcases iL.1 hx with rfl|hx
 ·exact⟨E.eng,E.ne⟩
 ·obtain⟨h1,h2⟩:=hL x hx;exact⟨(E.below.block _ h1).trans h2,fun r e=>by have:=(E.bj.lies r _ e).1;have:=E.Rl;omega⟩⟩
theorem An.ah7{w w' w2:World}{p:List (List cu)}{draws:List Int}{k k2 eb af:Nat}{F:Fx}{m:Mem}{S S2:Wd}(E:An w w' p draws k eb af F m S){L:List (Nat×Obj)}(T:TB af F m w' S2 ((eb,.cells #[.pointer (some ⟨F.al,0,none⟩)] 78)::L) w2)(mA:V.xK p draws k2 S2):∃m2,An w w2 p draws k2 eb af F m2 S2:=by
 obtain⟨m2,X⟩:=T;refine⟨m2,mA,⟨X.at_.mv.os.trans E.below.os,X.at_.mv.tape.trans E.below.tape,X.at_.mv.output.trans E.below.output,jm E.below.size X.at_.mv.size,fun b hb=>?_⟩,E.Rl,(X.loc _ (rn ..)).1,X.at_.bj,(X.loc _ (rn ..)).2⟩;rw[X.at_.mv.keep b (by have:=E.below.size;omega) (fun r e=>by have:=(E.bj.lies r b e).1;have:=E.Rl;omega)];exact E.below.block b hb
section
variable{w w':World}{p:List (List cu)}{draws:List Int}
theorem G1{eb af:Nat}{F:Fx}{m:Mem}{S:Wd}(E:An w w' p draws 0 eb af F m S)(hd:draws.length≤300)(hr:∀z∈draws,0≤z∧z≤65535)(picks:List Int)(np:Nat)(Fb:np=picks.length)(aC4:np≤300)(pa:Option Addr)(pc:Nat)(hz:∀z∈picks,-9223372036854775808≤z∧z≤9223372036854775807)(jF:Rd .i64 w pa picks):Calls prog 9 #[.pointer (some ⟨eb,0,none⟩),.slice pa np pc] w' fun e w2=>∃q k S2 m2,e=.returned (I q)∧k≤300∧An w w2 p draws k eb af F m2 S2:=by
 have G0:=V.Vh p draws oX hr;have G:T6 900000 (fun k S=>V.xK p draws k S∧k≤300):=⟨fun k S h=>G0.ax k S h.1,fun k S h=>G0.av k S h.1,fun k S g h=>G0.who k S g h.1,fun k S g h=>G0.aG k S g h.1⟩
 obtain⟨L,hL,hLr⟩:∃L:List (Nat×Obj),(∀x∈L,x.1<w.heap.size∧w.heap[x.1]?=some x.2)∧∀W:World,(∀x∈L,W.heap[x.1]?=some x.2)→Rd .i64 W pa picks:=by
  cases picks with
  |nil=>exact⟨[],(fun x hx=>by cases hx),(fun W _=>⟨jF.1,fun h=>aX h sX⟩)⟩
  |cons z zs=>
   obtain⟨b,off,rfl,hc⟩:=jF.2 sX;have h0:=hc 0 sX
   have dD:b<w.heap.size:=by
    rcases Nat.lt_or_ge b w.heap.size with h|h
    ·exact h
    ·simp[World.cell?,Array.getElem?_eq_none h]at h0
   refine⟨[(b,w.heap[b]'dD)],fun x hx=>?_,fun W hW=>jF.other ?_⟩
   ·rw[List.mem_singleton]at hx;subst hx;exact⟨dD,xL dD⟩
   ·rw[hW _ (List.mem_singleton.2 rfl),xL dD]
 refine(MY G (E.tb hL) (rn ..) ⟨E.row,Nat.zero_le _⟩ picks np Fb oX oX pa pc hz (fun W hW=>hLr W fun x hx=>hW x (nO _ hx)) (fun k S z hP hk h0 g hg=>?_)).mono ?_
 ·obtain⟨j,hj,jf⟩:=G.who k S _ hP (vt h0 z);rw[hg]at jf;have dD:=cA hk;obtain⟨S',a,b⟩:=V.xK.next hP.1 oX oX jf;exact⟨S',a,b,oX⟩
 ·rintro e w2 ⟨⟨q,rfl⟩,k,S2,hP,_,T⟩;obtain⟨m2,E2⟩:=E.ah7 T hP.1;exact⟨q,k,S2,m2,rfl,hP.2,E2⟩
theorem An.start{N most eb af:Nat}{F:Fx}{m:Mem}(hp:im p=true)(gI:nK N p.length most=true)(hd:draws.length≤300)(hb:Below w.heap.size w w')(hbase:w.heap.size≤af)(R:bz af F w' m (V.gj p N most draws))(he:w'.heap[eb]?=some (.cells #[.pointer (some ⟨F.al,0,none⟩)] 78 (0,0)))(hn:∀r,m.aV r≠some eb):An w w' p draws 0 eb af F m (V.gj p N most draws):=by
 unfold nK at gI;simp only[qs,decide_eq_true_eq]at gI;exact⟨V.wI (kH hp).2.2 oX oX draws oX,hb,hbase,he,R,hn⟩
end
theorem aL1:∀l:List cu,rR (l.map fun o=>o.cases.length)=V.aH7 l
 | []=>rfl
 |o::l=>by
  have e:V.aH7 (o::l)=V.cost o+V.aH7 l:=by unfold V.aH7;rw[List.map_cons,List.sum_cons]
  rw[List.map_cons,rR,aL1 l,e];rfl
theorem aM4:∀p:List (List cu),CI (p.map fun l=>l.map fun o=>o.cases.length)=(p.map V.aH7).sum
 | []=>rfl
 |l::p=>by rw[List.map_cons,CI,aM4 p,aL1,List.map_cons,List.sum_cons]
theorem aP7:∀{l:List cu},(∀o∈l,V.Vz o)→V.aH7 l≤120*l.length
 | [],_=>Nat.le_refl _
 |o::l,h=>by
  have e:V.aH7 (o::l)=V.cost o+V.aH7 l:=by unfold V.aH7;rw[List.map_cons,List.sum_cons]
  have h1:=(h o (rn ..)).cl;have h2:=aP7 (l:=l) fun o ho=>h o (nO _ ho)
  rw[e,sV];unfold V.cost;omega
theorem aU8{p:List (List cu)}(P:V.z8 p):V.wkP p≤15368:=by
 have key:∀q:List (List cu),(∀l∈q,l.length≤16∧∀o∈l,V.Vz o)→(q.map V.aH7).sum≤1920*q.length:=by
  intro q;induction q with
  |nil=>intro _;exact Nat.le_refl _
  |cons l q ih=>
   intro h;have h1:=h l (rn ..);have h2:=aP7 h1.2;have h3:=ih fun l hl=>h l (nO _ hl)
   rw[List.map_cons,List.sum_cons,sV];omega
 have h1:=key p fun l hl=>⟨P.row l hl,P.ops l hl⟩
 have h2:=P.len;unfold V.wkP;omega
theorem aL7(p:List (List cu))(n:Nat)(hn:n=p.length)(P:V.z8 p)(a:Option Addr)(c:Nat)(K:Nat)(hK:1≤K∧K≤16)(w:World)(h:aH1 w a p):Calls prog 12 #[.slice a n c,I K] w fun e w'=>e=.returned (I (K*(V.wkP p+1):Nat))∧Below w.heap.size w w':=by
 obtain⟨pl,kM⟩:=dC (p.map fun l=>l.map fun o=>o.cases.length);have h1:=h.toN;rw[←kM]at h1;have hl:pl.length=p.length:=by rw[kM,ko]
 have mA:∀i,i<pl.length→(pl.getD i []).length≤16∧∀j,j<(pl.getD i []).length→(pl.getD i []).getD j 0≤6:=fun i hi=>by
  obtain⟨l,pJ⟩:∃l,p[i]?=some l:=⟨_,fv oX⟩;have e:pl.getD i []=l.map fun o=>o.cases.length:=by rw[kM,yk,na,pJ];rfl
  have hm:=lf pJ;rw[e,ko];refine⟨P.row l hm,fun j hj=>?_⟩;obtain⟨o,ho⟩:∃o,l[j]?=some o:=⟨_,fv hj⟩;rw[yk,na,ho];exact(P.ops l hm o (lf ho)).cl
 have h8:=P.len;have hs:Small pl:=⟨oX,fun i hi=>⟨by have:=(mA i hi).1;omega,fun j hj=>by have:=(mA i hi).2 j hj;omega⟩⟩;refine(Hv pl n (by rw[hl];exact hn) a c K w h1 hs).mono ?_;rintro e w' ⟨⟨b,rfl,hb⟩,hB⟩;refine⟨?_,hB⟩
 have EI:¬Ln pl K:=by
  rintro(h|h|h|⟨i,hi,h⟩)
  ·omega
  ·omega
  ·omega
  ·have:=mA i hi;rcases h with h|⟨j,hj,h⟩
   ·omega
   ·have:=this.2 j hj;omega
 rw[hb.2 EI,hl];have e:pl.length+CI pl=V.wkP p:=by rw[kM,aM4,ko];rfl
 rw[hl]at e;rw[e];congr 3
theorem aL8{w w':World}{p:List (List cu)}{draws:List Int}{k eb af:Nat}{F:Fx}{m:Mem}{S:Wd}(E:An w w' p draws k eb af F m S)(hd:draws.length≤300)(hr:∀z∈draws,0≤z∧z≤65535)(P:V.z8 p)(hk:k≤300)(d:Nat)(hd8:d≤8)(K:Nat)(hK:K=p.length+d)(pc:Nat):Calls prog 11 #[.pointer (some ⟨eb,0,none⟩),.slice none 0 0,I K,I (K*(V.wkP p+1):Nat)] w' fun e w2=>∃la lj lc k2 S2 m2,e=.returned (.tuple #[.slice la lj lc,.bool true])∧k2≤300000∧cE S2.ax=[]∧An w w2 p draws k2 eb af F m2 S2:=by
 have h8:=P.len;have hw:=aU8 P;have hm:K*(V.wkP p+1)≤16*15369:=Nat.mul_le_mul oX oX;have D:=V.aP5 (p:=p) (draws:=draws) (K:=K) (d:=d) (k0:=k) (most:=K*(V.wkP p+1)) rfl hK oX hd hr;refine(JN D (E.tb (L:=[]) (fun x hx=>by cases hx)) (rn ..) (V.FQ.start E.row) ⟨oX,oX⟩ oX oX pc).mono ?_;rintro e w2 ⟨la,j,lc,S2,f,hQ,r9,rfl,T⟩
 have ta:cE S2.ax=[]:=by
  rcases r9 with h|h
  ·exact h
  ·subst h;exact V.FQ.stop rfl hK rfl hQ
 obtain⟨t,k2,R,jO,hj,_⟩:=hQ;obtain⟨m2,E2⟩:=E.ah7 T R;exact⟨_,_,_,k2,S2,m2,by rw[ta];rfl,oX,ta,E2⟩
theorem aR1{o:Option (List Nat)}(h:(o.map fun l=>(l.length:Int)).getD 0≤0):(o.getD []).length=0:=by
 cases o with
 |none=>rfl
 |some l=>simp only[km,Option.getD_some]at h ⊢;omega
theorem An.more{w w' w2:World}{p:List (List cu)}{draws:List Int}{k eb af:Nat}{F:Fx}{m:Mem}{S:Wd}(E:An w w' p draws k eb af F m S)(hb:Below w'.heap.size w' w2):An w w2 p draws k eb af F m S:=
 ⟨E.row,E.below.trans (hb.mono E.below.size),E.Rl,(hb.block _ (dh E.eng).1).trans E.eng,E.bj.below hb,E.ne⟩
abbrev MKX(mk:Ex):Array Value:=#[I mk.g,I mk.op,I mk.call,I mk.bJ,I mk.point,I mk.bF,I mk.fire,I mk.re,I mk.res.aJ,I mk.res.case,I mk.res.v,B mk.res.ok,I mk.res.n]
theorem aP8(p:List (List cu))(n:Nat)(hn:n=p.length)(a:Option Addr)(ca:Nat)(x y:Int)(draws:List Int)(da:Option Addr)(nd cd:Nat)(fX:nd=draws.length)(picks:List Int)(pa:Option Addr)(np pc:Nat)(Fb:np=picks.length)(w:World)(h1:aH1 w a p)(hd:Rd .u16 w da draws)(hr:∀z∈draws,0≤z∧z≤65535)(hz:∀z∈picks,-9223372036854775808≤z∧z≤9223372036854775807)(jF:Rd .i64 w pa picks):Calls prog 4 #[.agg #[.slice a n ca,I x,I y,.slice da nd cd],.slice pa np pc] w (oV (Below w.heap.size w)):=by
 have hsz:n≤9223372036854775807:=bu5
 have Dx:nd≤9223372036854775807:=by rw[fX];exact hd.1
 have Io:np≤9223372036854775807:=by rw[Fb];exact jF.1
 have HB:Hid (Below w.heap.size w (w.alloc (.cells #[.slice a n ca,I x,I y,.slice da nd cd] 27))):=(fp _ _).alloc cG _;have wH:Hid ((w.alloc (.cells #[.slice a n ca,I x,I y,.slice da nd cd] 27)).heap[w.heap.size]?=some (.cells #[.slice a n ca,I x,I y,.slice da nd cd] 27 (0,0))):=dP _ _;obtain⟨wA,tY⟩:∃W,W=w.alloc (.cells #[.slice a n ca,I x,I y,.slice da nd cd] 27):=⟨_,rfl⟩;obtain⟨bx,tl⟩:∃b,b=w.heap.size:=⟨_,rfl⟩;rw[←tY]at HB wH;rw[←tl]at wH;have FI:wA.heap.size=bx+1:=by rw[tY,tl];simp
 have H1:=ag (h1.below HB cG);have HD:=ag (hd.below HB cG);have CZ:=ag (jF.below HB cG);obtain⟨HN,Xe,Ep,HR,HZ⟩:=jW hn fX Fb hr hz;have Ah:Hid (∀W,Below wA.heap.size wA W→Calls prog 8 #[.agg #[.slice a n ca,I x,I y,.slice da nd cd],.slice pa np pc] W fun e w'=>e=.returned (.bool (okB p x y nd np))∧Below wA.heap.size wA w'):=fun W hb=>(Rc p n hn a ca x y da nd cd pa np pc Dx Io W (H1.out.below hb cG)).mono fun e w' h=>⟨h.1,hb.trans (h.2.mono hb.size)⟩
 have Yr:Hid (∀W,Below wA.heap.size wA W→Calls prog 7 #[.agg #[.slice a n ca,I x,I y,.slice da nd cd],.slice pa np pc] W fun e w'=>Below wA.heap.size wA w'∧((okB p x y nd np=false∧e=.returned (.tuple #[.pointer none,.bool false]))∨
   (okB p x y nd np=true∧nd≤300∧np≤300∧im p=true∧∃eb af F m S,e=.returned (.tuple #[.pointer (some ⟨eb,0,none⟩),.bool true])∧An wA w' p draws 0 eb af F m S))):=fun W hb=>by
  refine(Eb p n hn a ca x y draws da nd cd fX pa np pc Dx Io W (H1.out.below hb cG) (fun _=>HD.out.below hb cG) hr).mono ?_;rintro e w' ⟨mz,h⟩;refine⟨hb.trans (mz.mono hb.size),?_⟩;rcases h with h|⟨eK,N,most,F,m,eb,af,rfl,rfl,gI,hp,rfl,hbase,R,he,_,cM⟩
  ·exact .inl h
  ·have av8:=eK;unfold okB at eK;simp only[qs,decide_eq_true_eq]at eK;exact .inr ⟨av8,eK.1.2,eK.2,hp,eb,af,F,m,_,rfl,An.start hp (hn▸gI) oX (hb.trans (mz.mono hb.size)) (jm hb.size hbase) R he cM⟩
 have HAL:Hid (∀W:World,Calls prog 6 #[] W fun e w'=>e=.returned (.bool true)∧Below W.heap.size W w'):=fun W=>JR W
 have PX:=ag FI;clear h1 hd jF hn fX Fb hr hz FI;go_enter func4,ntmps4;go_upto_region 1 with fail
 rw[←tY,←tl];have RU:Hid (∀{W},Below wA.heap.size wA W→Below w.heap.size w W):=fun hb=>HB.out.trans (hb.mono HB.out.size)
 clear tY tl HB;have RR:Hid (∀W,Below wA.heap.size wA W→W.heap[bx]?=some (.cells #[.slice a n ca,I x,I y,.slice da nd cd] 27 (0,0))):=fun W hb=>(hb.block _ (by have:=PX.out;omega)).trans wH
 go_upto_region 4 with(first
  |(go_at_call 6;refine(HAL _).mono ?_;rintro e w1 ⟨rfl,hb⟩;have hx:=RR.out _ hb;have k0:w1.cell? ⟨bx,0,none⟩=some (.slice a n ca):=bk5;have k1:w1.cell? ⟨bx,1,none⟩=some (I x):=bk5;have k2:w1.cell? ⟨bx,2,none⟩=some (I y):=bk5;have k3:w1.cell? ⟨bx,3,none⟩=some (.slice da nd cd):=bk5;have pH:=ag hb;clear hb hx)
  |(go_at_call 7;refine(Yr _ pH).mono ?_;rintro e w2 ⟨mz,h⟩;have mq:=ag mz;have HX:=RR.out _ mz;have c0:w2.cell? ⟨bx,0,none⟩=some (.slice a n ca):=bq2;have c1:w2.cell? ⟨bx,1,none⟩=some (I x):=bq2;have c2:w2.cell? ⟨bx,2,none⟩=some (I y):=bq2;have c3:w2.cell? ⟨bx,3,none⟩=some (.slice da nd cd):=bq2;clear mz HX;rcases h with⟨eK,rfl⟩|⟨eK,hd3,U3,hp,eb,af,F,m,S,rfl,E⟩))
 ·clear k0 k1 k2 k3 Yr HAL RR;have HC:=ag (Ah.out _ mq);rw[eK]at HC;go_wp2_with (go_at_call 8;refine HC.out.mono ?_;rintro e w3 ⟨rfl,Hl⟩);go_ret;exact⟨rfl,RU Hl⟩
 ·have GQ:=ag (G1 E (by rw[←Xe.out];exact hd3) HR picks np Ep U3 pa pc HZ CZ);have Rm:=ag (aP6 H1 hp);have P:=(kH hp).2.2;obtain⟨mo,Kk⟩:∃mo:Nat,mo=n*(V.wkP p+1):=⟨_,rfl⟩;have hn8:n≤8:=by rw[HN.out];exact P.len
  have HBD:Hid (∀W,Below wA.heap.size wA W→Calls prog 12 #[.slice a n ca,I n] W fun e w'=>e=.returned (I mo)∧Below W.heap.size W w'):=fun W hb=>by have:=aL7 p n HN P a ca n ⟨by rw[HN.out];exact(kH hp).1.1,oX⟩ W (H1.out.below hb cG);rw[←Kk]at this;exact this
  have GN:Hid (∀k W m S,k≤300→An wA W p draws k eb af F m S→Calls prog 11 #[.pointer (some ⟨eb,0,none⟩),.slice none 0 0,I n,I mo] W fun e w2=>∃la lj lc k2 S2 m2,e=.returned (.tuple #[.slice la lj lc,.bool true])∧k2≤300000∧cE S2.ax=[]∧An wA w2 p draws k2 eb af F m2 S2):=fun k W m S hk E=>by have:=aL8 E (by rw[←Xe.out];exact hd3) HR P hk 0 oX n (by rw[HN.out];rfl) 0;rw[←Kk]at this;exact this
  clear k0 k1 k2 k3 c1 c2 c3 Ah Yr HAL E eK HZ HD CZ Xe Ep pH P hp Kk;go_upto_region 7 with(go_at_call 9;refine GQ.out.mono ?_;rintro e w3 ⟨q,k,S2,m2,rfl,hk,E⟩;have z0:w3.cell? ⟨bx,0,none⟩=some (.slice a n ca):=(by rw[cr _ _ _ _ _ _ (RR.out _ E.below)];rfl);obtain⟨HE,HK⟩:=dA E hk;clear E hk)
  clear c0
  go_upto_region 11 with(first
   |(go_at_call 12;refine(HBD _ HE.out.below).mono ?_;rintro e w4 ⟨rfl,hb⟩;have HE4:=ag (HE.out.more hb);clear hb)
   |(go_at_call 11;refine(GN k _ m2 S2 HK HE4).mono ?_;rintro e w5 ⟨la,lj,lc,k5,S5,m5,rfl,Qs,ta,E⟩;obtain⟨HE5,HK5,HQ5⟩:=ij E Qs ta;clear E Qs ta))
  have pI:Hid (Calls prog 10 #[.pointer (some ⟨eb,0,none⟩)] w5 fun e w'=>∃sa sc ma mc Vk dc xa xc ga gc Vl cc ha hc rg N,e=.returned (.agg #[I S5.dV,I S5.eT,I S5.av,.slice ga S5.gs.length gc,.slice ha rg hc,.slice sa S5.ah.length sc,.slice Vl S5.gs.length cc,.slice ma S5.Eg.aK.length mc,I S5.Eg.cO,.slice Vk S5.draws.length dc,I S5.drawn,.slice xa N xc])∧Below wA.heap.size wA w'∧gC w' xa N (bT ib 0 S5.done)∧rg=S5.au.length∧N=S5.done.length∧∃(ls:List (List Nat)) (Ds:List (List Value)),V.xQ S5.aw ls∧ls.length=16∧(∀D∈Ds,D.length=6)∧Ds.length=rg∧gC w' ha rg Ds.flatten∧∀(k:Nat) r D,S5.au[k]?=some r→Ds[k]?=some D→HRd S5 ls k r D w'):=by obtain⟨ls,jf⟩:=HE5.out.row.Um Rm (by have:=HK5.out;omega);refine(pU HE5.out.bj jf HE5.out.eng).mono ?_;rintro e w' ⟨sa,sc,ma,mc,Vk,dc,xa,xc,ga,gc,Vl,cc,ha,hc,As,Vs,Ds,rfl,hr,_⟩;have rd:=hr.rd w' (fun b _ _=>rfl);exact⟨sa,sc,ma,mc,Vk,dc,xa,xc,ga,gc,Vl,cc,ha,hc,_,_,rfl,HE5.out.below.trans (hr.below.mono HE5.out.below.size),rd.done,rfl,rfl,ls,Ds,jf.q,jf.bM,hr.d6,hr.ld,hr.nA w' (fun b _ _=>rfl),rd.nA⟩
  go_upto_region 12 with(first
   |(go_at_call 10;refine pI.out.mono ?_;rintro e w6 ⟨sa,sc,ma,mc,Vk,dc,xa,xc,ga,gc,Vl,cc,ha,hc,rg,N,rfl,hb,mj,Mu,hN,VU⟩;have H6:=ag (dO hb (dO mj (dO Mu (dO hN VU))));clear hb mj Mu hN VU)
   |(refine df rfl 41 (.tmp 10) (.tmp 50) rfl w6.heap.size rfl _ #[I S5.dV,I S5.eT,I S5.av,.slice ga S5.gs.length gc,.slice ha rg hc,.slice sa S5.ah.length sc,.slice Vl S5.gs.length cc,.slice ma S5.Eg.aK.length mc,I S5.Eg.cO,.slice Vk S5.draws.length dc,I S5.drawn,.slice xa N xc] rfl rfl jB rfl bi9 ?_))
  obtain⟨w7,Q7⟩:=dC (w6.alloc (.cells #[I S5.dV,I S5.eT,I S5.av,.slice ga S5.gs.length gc,.slice ha rg hc,.slice sa S5.ah.length sc,.slice Vl S5.gs.length cc,.slice ma S5.Eg.aK.length mc,I S5.Eg.cO,.slice Vk S5.draws.length dc,I S5.drawn,.slice xa N xc] 41));obtain⟨sb,mB⟩:∃b,b=w6.heap.size:=⟨_,rfl⟩;rw[←Q7,←mB];have Ur:w7.heap[sb]?=some (.cells #[I S5.dV,I S5.eT,I S5.av,.slice ga S5.gs.length gc,.slice ha rg hc,.slice sa S5.ah.length sc,.slice Vl S5.gs.length cc,.slice ma S5.Eg.aK.length mc,I S5.Eg.cO,.slice Vk S5.draws.length dc,I S5.drawn,.slice xa N xc] 41 (0,0)):=by rw[Q7,mB];exact dP _ _
  have hb7:Below wA.heap.size wA w7:=by rw[Q7];exact H6.out.1.alloc H6.out.1.size _
  have Uq:Below w6.heap.size w6 w7:=by rw[Q7];exact(fp w6.heap.size w6).alloc cG _
  have aV1:gC w7 xa N (bT ib 0 S5.done):=H6.out.2.1.below Uq cG;have tP:=ag (V.xK.aU7 HE5.out.row HQ5);have Ke:Hid (N=S5.done.length∧rg=S5.au.length∧rg=S5.aO.length∧rg≤8∧N≤900000):=by obtain⟨ls,jf⟩:=HE5.out.row.Um Rm (by have:=HK5.out;omega);have h1:=jf.au;have h2:=HE5.out.row.1.len;have h3:=H6.out.2.2;have h4:=HK5.out;have h5:=jf.aO;exact⟨h3.2.1,h3.1,oX,oX,oX⟩
  have aV4:Hid (S5.gs.map (·.ops)=p):=HE5.out.row.1.ops;have hN9:=Ke.out.2.2.2.2;have WQ:=Ke.out.2.2.2.1
  have WG:Hid (∀(j:Nat) (W:World),j<rg→Below w7.heap.size w7 W→∃b off ln ba bn bc cl ow ra lr rc sa2 lq sc2,ha=some ⟨b,off,none⟩∧S5.aO[j]?=some cl∧(cl=true→lr=0∧lq=0)∧∀q v,(#[I ln,.slice ba bn bc,B cl,I ow,.slice ra lr rc,.slice sa2 lq sc2]:Array Value)[q]?=some v→W.cell? ⟨b,off+j*6+q,none⟩=some v):=by
   intro j W hj hW;obtain⟨ls,Ds,hq,aC3,h6,hld,mj,jF⟩:=H6.out.2.2.2.2;obtain⟨r,hr⟩:∃r,S5.au[j]?=some r:=⟨_,fv (by rw[←Ke.out.2.1];exact hj)⟩;obtain⟨D,hD⟩:∃D,Ds[j]?=some D:=⟨_,fv (by rw[hld];exact hj)⟩;obtain⟨ba,bc,cl,ra,rc,sa2,sc2,hDe,gm,_,_,_⟩:=jF j r D hr hD;obtain⟨b,off,hae,mP⟩:=mj oX;refine⟨b,off,r.places.length,ba,r.count.toNat,bc,cl,owner S5.aq j,ra,(ls.getD (2*j) []).length,rc,sa2,(ls.getD (2*j+1) []).length,sc2,hae,gm,fun e=>?_,fun q v hv=>?_⟩
   ·obtain⟨q1,q2⟩:=tP.out.1 j (by rw[gm,e]);rw[hq.aS1]at q1 q2;rw[yk,yk];exact⟨aR1 q1,aR1 q2⟩
   ·have hq6:q<6:=(dh hv).1;have hv2:D[q]?=some v:=(by rw[hDe];simpa using hv);have:=mP (j*6+q) v (by rw[KY Ds j q D h6 hD hq6];exact hv2);rw[←Nat.add_assoc]at this;exact cw hW cG _ _ (cw Uq cG _ _ this)
  have H7:=ag (dO Ur (dO hb7 aV1));have c4:w7.cell? ⟨sb,4,none⟩=some (.slice ha rg hc):=by rw[cr _ _ _ _ _ _ Ur];rfl
  clear Q7 mB Ur hb7 aV1 Uq H6 pI HE HE4 HE5 GQ HBD GN HK HK5 HQ5 z0 mq;go_wp2;clear c4;go_loopw [54] (fun i wr=>∃j:Nat,i=.int .i64 j∧j≤rg∧Hid (Below w7.heap.size w7 wr)) (fun i _=>rg-(intOf i).toNat)
  case atStart=>exact⟨0,rfl,oX,fp _ _⟩
  case round=>
   obtain⟨j,rfl,hj,HW⟩:=hrel;by_cases dD:j<rg
   ·obtain⟨b,off,ln,ba,bn,bc,cl,ow,lra,lr,rc,sa2,lq,sc2,rfl,gm,hz,mP⟩:=WG.out j wr dD HW;have HC:=ag mP;have HZ:=ag hz;clear mP hz gm;go_upto_region 14 with fail
    repeat(fail_if_success (refine wpList_load_mid rfl 59 (.tmp 56) rfl b (off+j*6) rfl #[I ln,.slice ba bn bc,B cl,I ow,.slice lra lr rc,.slice sa2 lq sc2] ?_ ?_ ?_ ?_));go_step
    refine wpList_load_mid rfl 59 (.tmp 56) rfl b (off+j*6) rfl #[I ln,.slice ba bn bc,B cl,I ow,.slice lra lr rc,.slice sa2 lq sc2] HC Vj JP ?_;repeat(fail_if_success (refine df rfl 59 (.tmp 12) (.tmp 57) rfl wr.heap.size rfl _ #[I ln,.slice ba bn bc,B cl,I ow,.slice lra lr rc,.slice sa2 lq sc2] rfl rfl ?_ ?_ ?_ ?_));go_step
    refine df rfl 59 (.tmp 12) (.tmp 57) rfl wr.heap.size rfl _ #[I ln,.slice ba bn bc,B cl,I ow,.slice lra lr rc,.slice sa2 lq sc2] rfl rfl JP rfl bi9 ?_;go_upto_region 15 with fail
    obtain⟨w8,hw8⟩:∃W,W=wr.alloc (.cells #[I ln,.slice ba bn bc,B cl,I ow,.slice lra lr rc,.slice sa2 lq sc2] 59):=⟨_,rfl⟩;obtain⟨kb,hkb⟩:∃b,b=wr.heap.size:=⟨_,rfl⟩;rw[←hw8,←hkb];have hx8:w8.heap[kb]?=some (.cells #[I ln,.slice ba bn bc,B cl,I ow,.slice lra lr rc,.slice sa2 lq sc2] 59 (0,0)):=(by rw[hw8,hkb];exact dP _ _);have HB8:Hid (Below w7.heap.size w7 w8):=(by rw[hw8];exact HW.out.alloc HW.out.size _);have k4:w8.cell? ⟨kb,4,none⟩=some (.slice lra lr rc):=bm5;have k5:w8.cell? ⟨kb,5,none⟩=some (.slice sa2 lq sc2):=bm5;have k2:w8.cell? ⟨kb,2,none⟩=some (B cl):=bm5;clear hw8 hkb hx8 HC
    cases cl with
    |true=>
     obtain⟨h0,h00⟩:=HZ.out rfl;subst h0 h00;clear HZ;exact aY1
    |false=>
     clear HZ;exact aY1
   ·obtain rfl:rg=j:=by omega
    clear dD hj;have c11:wr.cell? ⟨sb,11,none⟩=some (.slice xa N xc):=(by rw[cr _ _ _ _ _ _ ((HW.out.block _ (dh H7.out.1).1).trans H7.out.1)];rfl);go_upto_region 19 with fail
    clear c11;go_loopw [76] (fun i wr=>∃j:Nat,i=.int .i64 j∧j≤N∧Hid (Below w7.heap.size w7 wr)) (fun i _=>N-(intOf i).toNat)
    case atStart=>exact⟨0,rfl,oX,HW⟩
    case round=>
     clear HW;obtain⟨j,rfl,hj,HW⟩:=hrel;by_cases dD:j<N
     ·obtain⟨b,off,rfl,mP⟩:=H7.out.2.2 oX;obtain⟨mk,sN⟩:∃m,S5.done[j]?=some m:=⟨_,fv (by rw[←Ke.out.1];exact dD)⟩;have lP:=ag (tP.out.2 mk (lf sN));have HC:Hid (∀q v,(MKX mk)[q]?=some v→wr.cell? ⟨b,off+j*13+q,none⟩=some v):=fun q v hq=>by have Xc:q<13:=(dh hq).1;have:=mP (j*13+q) v (by rw[fq (f:=ib) (k:=13) (fun _ _=>rfl) S5.done 0 j q mk sN Xc];simpa[ib,ru]using hq);rw[←Nat.add_assoc]at this;exact cw HW cG _ _ this
      clear mP sN;go_upto_region 20 with fail
      repeat(fail_if_success (refine wpList_load_mid rfl 46 (.tmp 78) rfl b (off+j*13) rfl (MKX mk) ?_ ?_ ?_ ?_));go_step
      refine wpList_load_mid rfl 46 (.tmp 78) rfl b (off+j*13) rfl (MKX mk) HC Ob vS ?_;repeat(fail_if_success (refine df rfl 46 (.tmp 14) (.tmp 79) rfl wr.heap.size rfl _ (MKX mk) rfl rfl ?_ ?_ ?_ ?_));go_step
      refine df rfl 46 (.tmp 14) (.tmp 79) rfl wr.heap.size rfl _ (MKX mk) rfl rfl vS rfl bi9 ?_;go_upto_region 21 with fail
      obtain⟨w8,hw8⟩:∃W,W=wr.alloc (.cells (MKX mk) 46):=⟨_,rfl⟩;obtain⟨mb,ny⟩:∃b,b=wr.heap.size:=⟨_,rfl⟩;rw[←hw8,←ny];have hx8:w8.heap[mb]?=some (.cells (MKX mk) 46 (0,0)):=(by rw[hw8,ny];exact dP _ _);have HB8:Hid (Below w7.heap.size w7 w8):=(by rw[hw8];exact HW.out.alloc HW.out.size _);have H8:=ag hx8;clear hw8 ny hx8 HC HW;by_cases ha:mk.bJ=0
      ·have m3:w8.cell? ⟨mb,3,none⟩=some (I 0):=(by rw[cr _ _ _ _ _ _ H8.out,←ha];rfl);clear lP H8 ha;exact aY1
      ·obtain⟨ar,har⟩:∃z,z=mk.bJ:=⟨_,rfl⟩;obtain⟨wi,hwi⟩:∃z,z=mk.bF:=⟨_,rfl⟩;have m3:w8.cell? ⟨mb,3,none⟩=some (I ar):=(by rw[cr _ _ _ _ _ _ H8.out,har];rfl);have m5:w8.cell? ⟨mb,5,none⟩=some (I wi):=(by rw[cr _ _ _ _ _ _ H8.out,hwi];rfl);have v0:(ar==0)=false:=(by rw[har];simpa using ha);have v00:¬ar=0:=(by rw[har];exact ha);by_cases hw:0≤mk.bF
       ·have v1:decide (0≤wi)=true:=(by rw[hwi];simpa using hw);have v11:0≤wi:=(by rw[hwi];exact hw);clear lP H8 ha hw har hwi;exact aY1
       ·have v1:decide (0≤wi)=false:=(by rw[hwi];simpa using hw);have v11:¬0≤wi:=(by rw[hwi];exact hw);have Yf:=ag (lP.out ha oX);clear lP ha hw har hwi;go_upto_region 22 with fail
        clear m3 m5 v0 v00 v1 v11;obtain⟨g,jj,l,o,e1,e2,hl,ho,c,aU1,aI5,rh,vz⟩:=Yf.out;rw[aV4.out]at hl;obtain⟨pb,Xq,r,lc2,rfl,U8,XR⟩:=H1.out.2 g l hl;obtain⟨ob,JS,xx,cx,rfl,q0,q1,q2,q3,q4,q5,fa,i1,i2,i3,i4⟩:=XR.2 jj o ho;have aU9:Below wA.heap.size wA w8:=H7.out.2.1.trans (HB8.out.mono H7.out.2.1.size);obtain⟨ln,VT⟩:∃x,x=l.length:=⟨_,rfl⟩;have hgn:g<n:=(by rw[HN.out];exact(cA hl));have vy:jj<ln:=(by rw[VT];exact(cA ho));have J8:ln≤100:=(by rw[VT];exact(Rm l (lf hl)).1);rw[←VT]at U8
        have HKS:Hid (∀W,Below w8.heap.size w8 W→W.cell? ⟨bx,0,none⟩=some (.slice (some ⟨pb,Xq,none⟩) n ca)∧W.cell? ⟨mb,0,none⟩=some (I g)∧W.cell? ⟨mb,1,none⟩=some (I jj)∧W.cell? ⟨mb,6,none⟩=some (I mk.fire)∧W.cell? ⟨pb,Xq+g,none⟩=some (.slice (some ⟨ob,JS,none⟩) ln lc2)∧W.cell? ⟨ob,JS+jj*6,none⟩=some (I o.ai)∧W.cell? ⟨ob,JS+jj*6+1,none⟩=some (I o.ch)∧W.cell? ⟨ob,JS+jj*6+2,none⟩=some (I o.n)∧W.cell? ⟨ob,JS+jj*6+3,none⟩=some (I o.v)∧W.cell? ⟨ob,JS+jj*6+4,none⟩=some (.slice xx o.cases.length cx)∧W.cell? ⟨ob,JS+jj*6+5,none⟩=some (B o.dG)):=fun W hb=>by
         have up:=fun a v h=>cw hb cG a v (cw aU9 cG a v h)
         have um:∀q v,(MKX mk)[q]?=some v→W.cell? ⟨mb,q,none⟩=some v:=fun q v h=>cw hb cG _ _ ((cr _ _ _ _ _ _ H8).trans h)
         exact⟨up _ _ bt1,um 0 _ (by rw[←e1];rfl),um 1 _ (by rw[←e2];rfl),um 6 _ rfl,up _ _ U8,up _ _ q0,up _ _ q1,up _ _ q2,up _ _ q3,up _ _ q4,up _ _ q5⟩
        have qH:Hid (∀W,Below w8.heap.size w8 W→Calls prog 13 #[.agg #[I o.ai,I o.ch,I o.n,I o.v,.slice xx o.cases.length cx,B o.dG],I mk.fire] W fun e w'=>∃v,e=.returned (.tuple #[.agg #[B c.cF,I c.ch,I v],.bool true])∧Below w8.heap.size w8 w'∧Below W.heap.size W w'):=fun W hb=>by refine(aR3 o mk.fire c aU1 W xx cx (fa.fU fun a v h=>cw hb cG a v (cw aU9 cG a v h))).mono ?_;rintro e w' ⟨v,rfl,h⟩;exact⟨v,rfl,hb.trans (h.mono hb.size),h⟩
        have XP:=ag (dO aI5 (dO rh vz));have BK:Hid (Below w8.heap.size w8 w8.drew):=(fp _ _).drew;clear hl ho aU1 aI5 rh vz U8 XR q0 q1 q2 q3 q4 q5 fa i1 i2 i3 i4 aU9 e1 e2 VT Yf
        go_region_held3 (fun W=>W.cell? ⟨bx,0,none⟩=some (.slice (some ⟨pb,Xq,none⟩) n ca)∧W.cell? ⟨mb,0,none⟩=some (I g)∧W.cell? ⟨mb,1,none⟩=some (I jj)∧W.cell? ⟨mb,6,none⟩=some (I mk.fire)∧W.cell? ⟨pb,Xq+g,none⟩=some (.slice (some ⟨ob,JS,none⟩) ln lc2)∧W.cell? ⟨ob,JS+jj*6,none⟩=some (I o.ai)∧W.cell? ⟨ob,JS+jj*6+1,none⟩=some (I o.ch)∧W.cell? ⟨ob,JS+jj*6+2,none⟩=some (I o.n)∧W.cell? ⟨ob,JS+jj*6+3,none⟩=some (I o.v)∧W.cell? ⟨ob,JS+jj*6+4,none⟩=some (.slice xx o.cases.length cx)∧W.cell? ⟨ob,JS+jj*6+5,none⟩=some (B o.dG))
         (first|with_reducible exact HKS.out _ BK.out|(refine HKS.out _ ?_;repeat(first|exact hbN|exact BK.out|exact hbN.size|exact Nat.le_refl _|exact fp _ _|refine Below.drew ?_|refine Below.setCell ?_ ?_ _|refine Below.alloc ?_ ?_ _)))
         (first
          |(go_at_call 13;with_reducible refine(qH.out _ BK.out).mono ?_;rintro e wN ⟨v,rfl,hbN,mz⟩)
          |(go_at_call 13;(first|with_reducible refine(qH.out _ (((fp w8.heap.size w8).alloc cG _).drew)).mono ?_|refine(qH.out _ (BK.out.alloc cG _)).mono ?_);rintro e wN ⟨v,rfl,hbN,mz⟩;have hz:wN.heap[w8.heap.size]?=some (.cells #[B false,I 0,I 0] 52 (0,0)):=(mz.block _ sX).trans (dP _ _);have zz0:wN.cell? ⟨w8.heap.size,0,none⟩=some (B false):=bt5;have zz1:wN.cell? ⟨w8.heap.size,1,none⟩=some (I 0):=bt5;have zz2:wN.cell? ⟨w8.heap.size,2,none⟩=some (I 0):=bt5;have fz0:=iM _ _ 0 _ _ hz;have fz1:=iM _ _ 1 _ _ hz;have fz2:=iM _ _ 2 _ _ hz;have HZZ:=ag hz;clear hz))
        all_goals
         first
          |(obtain⟨w9,hw9⟩:∃W,W=wN.alloc (.cells #[B c.cF,I c.ch,I v] 52):=⟨_,rfl⟩;obtain⟨ub,hub⟩:∃b,b=wN.heap.size:=⟨_,rfl⟩;rw[←hw9,←hub];have hx9:w9.heap[ub]?=some (.cells #[B c.cF,I c.ch,I v] 52 (0,0)):=(by rw[hw9,hub];exact dP _ _);have ZP:Below w8.heap.size w8 w9:=(by rw[hw9];exact hbN.alloc hbN.size _))
          |(obtain⟨w9,hw9⟩:∃W,W=((wN.setCell ⟨w8.heap.size,0,none⟩ (B c.cF)).setCell ⟨w8.heap.size,1,none⟩ (I c.ch)).setCell ⟨w8.heap.size,2,none⟩ (I v):=⟨_,rfl⟩;obtain⟨ub,hub⟩:∃b,b=w8.heap.size:=⟨_,rfl⟩;rw[←hw9,←hub];have hx9:w9.heap[ub]?=some (.cells #[B c.cF,I c.ch,I v] 52 (0,0)):=(by rw[hw9,hub];exact aJ1 HZZ _ _ _);have ZP:Below w8.heap.size w8 w9:=(by rw[hw9];exact Below.setCell (Below.setCell (Below.setCell hbN cG _) cG _) cG _))
         have HB9:Hid (Below w7.heap.size w7 w9):=HB8.out.trans (ZP.mono HB8.out.size);have hx8:w9.heap[mb]?=some (.cells (MKX mk) 46 (0,0)):=(ZP.block _ (dh H8).1).trans H8;obtain⟨aI5,rh,vz⟩:=XP.out;have hbd:=V.aU2 (w:=S5) aI5;obtain⟨kc,hkc⟩:∃kc:Nat,c.ch=(kc:Int)+1:=⟨(c.ch-1).toNat,oX⟩;have hkr:kc<rg:=(by have:=Ke.out.2.2.1;omega);obtain⟨hb,Ls,ln2,ba,bn,bc,cl,ow,lra,lr,rc,sa2,lq,sc2,rfl,gm,_,mP⟩:=WG.out kc w9 hkr HB9;have De:cl=true:=(by unfold idx at aI5;rw[hkc,aF oX,show((kc:Int)+1-1).toNat=kc by omega,gm]at aI5;exact mx aI5);subst De;have d2:w9.cell? ⟨hb,Ls+kc*6+2,none⟩=some (B true):=mP 2 _ rfl;have s4:w9.cell? ⟨sb,4,none⟩=some (.slice (some ⟨hb,Ls,none⟩) rg hc):=(by rw[cr _ _ _ _ _ _ ((HB9.out.block _ (dh H7.out.1).1).trans H7.out.1)];rfl);have u0:w9.cell? ⟨ub,0,none⟩=some (B c.cF):=(by rw[cr _ _ _ _ _ _ hx9];rfl);have u1:w9.cell? ⟨ub,1,none⟩=some (I ((kc:Int)+1)):=(by rw[cr _ _ _ _ _ _ hx9,←hkc];rfl);have m8:w9.cell? ⟨mb,8,none⟩=some (I mk.res.aJ):=bm5;have m10:w9.cell? ⟨mb,10,none⟩=some (I mk.res.v):=bm5;have m11:w9.cell? ⟨mb,11,none⟩=some (B mk.res.ok):=bm5;have v1:decide ((kc:Int)+1<1)=false:=bi8;have v2:decide ((rg:Int)<(kc:Int)+1)=false:=bi8;have v3:IntKind.i64.wrap ((kc:Int)+1-1)=(kc:Int):=bv4;have v4:decide (rg≤kc)=false:=bi8;clear hw9 hub hx9 ZP hx8 aI5 hbd hkc gm mP XP HKS qH BK HB8 H8 hgn vy J8 hbN
         cases Ar:c.cF with
         |true=>
          rw[Ar]at u0;rw[rh Ar]at m8;clear rh vz Ar m10 m11;exact be0
         |false=>
          obtain⟨r1,r2,r3⟩:=vz Ar;rw[Ar]at u0;rw[r1]at m8;rw[r2]at m11;rw[r3]at m10;clear rh vz Ar r1 r2 r3;exact be0
     ·obtain rfl:N=j:=by omega
      go_wp2;go_ret;exact⟨rfl,RU (H7.out.2.1.trans (HW.out.mono H7.out.2.1.size))⟩
namespace wholeCloses
open Go.ChangeShapes Go.WideShapes Go.ChangeAt Go.Deep
theorem lifted(os:Os)(started:os.Started)(H:Type)(enc:TypeId×Value→H):ReturnsInHanded {} Tryz.checked os 4 .any (Rows.wholeClosesSpec.pre6 enc Tryz.prog Tryz.f4 Rows.wholeClosesRow.domain false) (Rows.wholeClosesSpec.post enc Tryz.prog Tryz.f4 false true false false):=by
 refine returnsInHanded_of_change (C:=Tryz.checked) own started kX Tryz.func4
  (ChangeSpec.witness6 (enc:=enc) (C:=Tryz.checked) false ⟨#[],#[.agg #[.slice none 0 0,I 0,I 0,.slice none 0 0],.slice none 0 0],[]⟩ 16 kX kX kX kX) ?_
 intro W af args ds gs before Vn hW _ _;have Xs:∀(j:Nat) t v,Tryz.f4.params[j]?=some t→args[j]?=some v→Value.okWide Tryz.prog W .any af t v:=Vn;have hW':=hW;obtain⟨p,q,hA0,hV,rfl,_,_⟩:=hW;have hA:DataW.TrodAll enc Tryz.prog W 0 (fun _=>true) true Tryz.f4.params.toList args.toList ds p:=hA0;rw[Tryz.params4]at hA Xs;obtain⟨v0,vs0,d0,ds0,p0,q0,ax6,rfl,rfl,h0,r0⟩:=trodAll_cons hA;obtain⟨v1,vs1,d1,ds1,p1,q1,rfl,rfl,rfl,h1,r1⟩:=trodAll_cons r0;obtain⟨rfl,rfl,rfl⟩:=trodAll_nil r1;obtain rfl:args=#[v0,v1]:=by cases args;simp_all
 obtain⟨rfl,rfl⟩:=trodVars_none hV;have lt0:∀x∈p0,x.block<W.heap.size:=by obtain⟨m,hm⟩:=h0;exact DataW.trod_lt m _ _ _ hm
 obtain⟨a,n,ca,x,y,da,nd,cd,rfl,pl,draws,hn,rdp,fX,rdd,wd⟩:=JJ (Xs 0 27 v0 rfl rfl) h0;have lt1:∀x∈p1,x.block<W.heap.size:=by obtain⟨m,hm⟩:=h1;exact DataW.trod_lt m _ _ _ hm
 obtain⟨pa,np,pc,rfl,picks,Fb,rdk,wk⟩:=M4 (Xs 1 28 v1 rfl rfl) h1;clear hA0 Vn;refine(aP8 pl n hn a ca x y draws da nd cd fX picks pa np pc Fb W rdp rdd wd wk rdk).mono fun e W' ⟨he,DS⟩=>?_
 subst he;exact⟨_,rfl,_,_,_,[],_,[],hW',trodAll_mk1 (shut_bool Tryz.underlying4 _),(trodAll_cons_mk (Below.trod laidOut kX (of_decide_eq_true kX) h0 DS lt0) (trodAll_cons_mk (Below.trod laidOut kX (of_decide_eq_true kX) h1 DS lt1) trodAll_mk0)),rfl,DS.frame _,fun h=>bk0⟩
theorem aV5:Rows.wholeClosesRow.holds Tryz.pinned (OpenSpec.ofChange Rows.wholeClosesSpec):=
 OpenClaim.holds_of_wide 4 Tryz.f4 rfl rfl rfl rfl rfl rfl rfl ⟨rfl,rfl,rfl,rfl,rfl⟩ rfl rfl rfl rfl rfl kX Tryz.func4 kX
  (of_decide_eq_true kX) (by unfold Func.isWrapper;rw[aE (by decide+kernel)];exact⟨rfl,rfl⟩)
  (fun os started H enc _=>lifted os started H enc)
theorem proved:Rows.WholeClosesSaid:=aV5
#print axioms proved
end wholeCloses
end Go.Proofs.YtadifmnmfnihdaaGreat
