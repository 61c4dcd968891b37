import Derived.Test.YtadifmnmfnihdaaGreatA26
set_option linter.all false
set_option maxRecDepth 100000
set_option maxHeartbeats 40000000
namespace Go.Proofs.YtadifmnmfnihdaaGreat
open Go.RowKit Mach Go.Proofs.Tryz
theorem GL{aJ:Code}(ic:Tryz.f74.body.bind (po 11)=some aJ){lo wb mb j vc ln lc:Nat}{va la:Option Addr}{w5:World}{xs:List Value}(RL:w5.heap[mb]?=some (.cells (NC la ln lc) 100 (0,0)))(c3:w5.cell? ⟨wb,3,none⟩=some (.slice va j vc))(Yg:w5.frozen? ⟨wb,3,none⟩=false)(lwb:wb<w5.heap.size)(hown:w5.ownsRow lo 100 25 (.slice va j vc) j xs)(M0:lo≤w5.heap.size)(hj:j≤2)(cM:(Value.slice va j vc).ownBlock≠some wb)(x0 x1 x2 x4 x6 x7 x8 x9 RI bl sD sE zR zS Gn Gp Gq MK ML MM MN MO QB QC XW XX XY XZ X7 Ya Yb Yc x34 x35 x36 x37 x38 x39 x40 x41 x42 x43 x44 x45 x46 x47 x48 x49 x50 x51 x52 x53 x54 x55 x56 x57 x58 x59 x60 x61 x62 x63 x64 x65 x66 x67 x68 x69 x70 x71 x72 x73 x74 x75 x76 x77 x78 x79 x80 x81 x82 x83 x84 x85 x86 x87 x88 x89 x90 x91 x92 x93 x94 x95 x96 x97 x98 x99 Tk WN Tl Tm Tn Tp Tq Tr Ts Tt Tu Tv Tw Tx Ty Tz TA TC:Value){Q:Exit→Act→World→Prop}(hQp:∀c (a:Act) (k:Nat) v w,Q (.panic c) (a.put (some k) v) w→Q (.panic c) a w)(hQ:∀(u92 u93 u94 u95 u96 u97 u98 u99 ag2 PW:Value) (w9:World) (gg hU:Nat),w9.ownsRow lo 100 25 (.slice (some ⟨gg,0,none⟩) (j+1) hU) (j+1) (xs++((NC la ln lc):Array Value).toList)→(w5.alloc (.cells (NC la ln lc) 100)).grownBy w9 (Value.slice va j vc).ownBlock→((Value.slice va j vc).ownBlock=some gg∨w5.heap.size+1≤gg)→Q .normal {tmps:=#[x0,x1,x2,.pointer (some ⟨wb,0,none⟩),x4,.pointer (some ⟨mb,0,none⟩),x6,x7,x8,x9,RI,bl,sD,sE,zR,zS,Gn,Gp,Gq,MK,ML,MM,MN,MO,QB,QC,XW,XX,XY,XZ,X7,Ya,Yb,Yc,x34,x35,x36,x37,x38,x39,x40,x41,x42,x43,x44,x45,x46,x47,x48,x49,x50,x51,x52,x53,x54,x55,x56,x57,x58,x59,x60,x61,x62,x63,x64,x65,x66,x67,x68,x69,x70,x71,x72,x73,x74,x75,x76,x77,x78,x79,x80,x81,x82,x83,x84,x85,x86,x87,x88,x89,x90,x91,u92,u93,u94,u95,u96,u97,u98,u99,ag2,PW,Tl,Tm,Tn,Tp,Tq,Tr,Ts,Tt,Tu,Tv,Tw,Tx,Ty,Tz,TA,TC],defers:=[]} (w9.setCell ⟨wb,3,none⟩ (.slice (some ⟨gg,0,none⟩) (j+1) hU))):Code.wp prog aJ Q {tmps:=#[x0,x1,x2,.pointer (some ⟨wb,0,none⟩),x4,.pointer (some ⟨mb,0,none⟩),x6,x7,x8,x9,RI,bl,sD,sE,zR,zS,Gn,Gp,Gq,MK,ML,MM,MN,MO,QB,QC,XW,XX,XY,XZ,X7,Ya,Yb,Yc,x34,x35,x36,x37,x38,x39,x40,x41,x42,x43,x44,x45,x46,x47,x48,x49,x50,x51,x52,x53,x54,x55,x56,x57,x58,x59,x60,x61,x62,x63,x64,x65,x66,x67,x68,x69,x70,x71,x72,x73,x74,x75,x76,x77,x78,x79,x80,x81,x82,x83,x84,x85,x86,x87,x88,x89,x90,x91,x92,x93,x94,x95,x96,x97,x98,x99,Tk,WN,Tl,Tm,Tn,Tp,Tq,Tr,Ts,Tt,Tu,Tv,Tw,Tx,Ty,Tz,TA,TC],defers:=[]} w5:=by
 obtain rfl:Code.region 11 _ _=aJ:=mx ic;obtain⟨i3,gi,RO,RP,RQ⟩:=info_parts uS;obtain⟨HQ,Yh,NA⟩:=ij hQ hown cM;have lmb:mb<w5.heap.size:=(dh RL).1;have HC5:Hid (∀W:World,W.heap=w5.heap∨W.heap=w5.heap→∀q v,((NC la ln lc):Array Value)[q]?=some v→W.cell? ⟨mb,0+q,none⟩=some v):=fun W hW q v hv=>by have hW:W.heap=w5.heap:=hW.elim id id;rw[Nat.zero_add,cr W mb q _ _ _ (by rw[hW];exact RL)];exact hv
 clear ic hQ hown cM RL;refine wp_region_any kX ?_;change wpAny _ _ _ _ _ _ _ w5.drew;refine wpAny_take (i:=0) (v:= ?v0) rfl kX kX kX (fun _ _ _ h=>hQp _ _ _ _ _ h) (Or.inl ⟨bn8,?J2⟩) ?ax1
 case J2=>(intro w0;go_simp;try with_reducible rfl)
 refine wpAny_take (i:=1) (v:= ?v1) rfl kX kX kX (fun _ _ _ h=>hQp _ _ _ _ _ h) (Or.inl ⟨bn8,?NW⟩) ?ax2
 case NW=>(intro w0;go_simp;try with_reducible rfl)
 refine wpAny_take (i:=2) (v:= ?v2) rfl kX kX kX (fun _ _ _ h=>hQp _ _ _ _ _ h) (Or.inl ⟨bn8,?rN⟩) ?ax3
 case rN=>(intro w0;go_simp;try with_reducible rfl)
 refine wpAny_take (i:=3) (v:= ?v3) rfl kX kX kX (fun _ _ _ h=>hQp _ _ _ _ _ h) (Or.inl ⟨bn8,?ZU⟩) ?ax4
 case ZU=>(intro w0;go_simp;try with_reducible rfl)
 refine wpAny_ready (rs:=[4,5]) kX sX (AllReady.cons rfl (fun K hK=>?_) (AllReady.cons rfl (fun K hK=>?_) AllReady.nil))
 ·go_simp;refine hK _ _ ?_;clear hK K;refine wpAny_ready (rs:=[5]) kX sX (AllReady.cons rfl (fun K hK=>?_) AllReady.nil);refine tt rfl 100 (.tmp 5) rfl mb 0 rfl (NC la ln lc) (HC5 _ (.inl rfl)) mC fE ?_;exact bi3
 ·refine tt rfl 100 (.tmp 5) rfl mb 0 rfl (NC la ln lc) (HC5 _ (.inl rfl)) mC fE ?_;refine hK _ _ ?_;clear hK K;refine wpAny_ready (rs:=[4,6]) kX sX (AllReady.cons rfl (fun K hK=>?_) (AllReady.cons rfl (fun K hK=>?_) AllReady.nil))
  ·go_simp;exact bi3
  ·go_simp;refine hK _ _ ?_;clear hK K;refine wpAny_ready (rs:=[4]) kX sX (AllReady.cons rfl (fun K hK=>?_) AllReady.nil);exact aw1
def vu(S:Wd)(g:Nat):Option Wd:=
 match gh S g with
 |some (S',true)=>some S'
 |_=>match S.gs[g]?,mf S g with
  |some x,some o=>
   if x.ae=0∨x.ae=20∨x.ae=18 then none else
   match(if o.ai=2∨o.ai=4 then jq S g else if o.ai=3∨o.ai=5 then jr S g else if o.ai=6 then js S g else if o.ai=9 then hO S g else none) with
   |some (S',true)=>some S'
   |_=>none
  |_,_=>none
theorem Ec{S S':Wd}{g:Nat}(h:uj S g S'):vu S g=some S':=by
 rcases h with h|⟨x,o,hx,hp,eK,h⟩
 ·unfold vu;rw[h]
 ·have h0:gh S g=some (S,false):=by
   unfold gh;rw[hx];show(if x.ae=0 then yes (jT S g)else if x.ae=20 then yes (KZ S g)else if x.ae=18 then yes (mL S g)else some (S,false))=_;rw[aE hp.1,aE hp.2.1,aE hp.2.2]
  unfold vu;rw[h0];simp only[hx,eK];rw[aE (fun h=>by rcases h with e|e|e;exact hp.1 e;exact hp.2.1 e;exact hp.2.2 e)];rcases h with⟨hk,h⟩|⟨hk,h⟩|⟨hk,h⟩|⟨hk,h⟩
  ·rw[aF hk,h]
  ·rw[aE oX,aF hk,h]
  ·rw[aE oX,aE oX,aF hk,h]
  ·rw[aE oX,aE oX,aE oX,aF hk,h]
def vw(a b:Int):Int→Int:=fun i=>if i=0 then a else if i=1 then b else 0
def Rg(S:Wd):Bool:=match(S.done.filter fun m=>m.g==1).map (·.res) with
 | [r0,r1]=>r0.v==9&&r0.ok&&!r1.ok
 |_=>false
def GR:Nat→Wd→Int→Int→Bool
 |0,_,_,_=>false
 |n+1,S,a,b=>
  if cE S.ax=[]then Rg S else
  let g:=qZ (vw a b) (cE S.ax) 2 2
  if g=0∨g=1 then
   match vu {S with av:=S.av+1} g.toNat with
   |some S'=>GR n S' (iC g (cE S.ax) (vw a b) 0) (iC g (cE S.ax) (vw a b) 1)
   |none=>false
  else false
def ev:List (List cu):=[[{ai:=2,ch:=1,v:=9},{ai:=6,ch:=1}],[{ai:=3,ch:=1},{ai:=3,ch:=1}]]
def pV:Wd:={V.gj ev 2 1 []with au:=[{places:=[]}],aO:=[false],aq:=[-1]}
theorem M8:GR 199 pV 0 0=true:=by decide+kernel
theorem Rh{S S':Wd}{n g:Nat}{a b:Int}(h:GR (n+1) S a b=true)(hr:cE S.ax≠[])(hg:qZ (vw a b) (cE S.ax) 2 2=g)(hD:uj {S with av:=S.av+1} g S'):GR n S' (iC g (cE S.ax) (vw a b) 0) (iC g (cE S.ax) (vw a b) 1)=true:=by
 unfold GR at h;rw[aE hr]at h;simp only[hg]at h;split at h
 ·rw[oU,Ec hD]at h;exact h
 ·cases h
theorem Al{f:Int→Int}{run:List Int}{k:Int}{n:Nat}(h:run≠[]):qZ f run k n∈run:=by
 have h0:run.getD 0 0∈run:=by rw[yk,fv (pd h)];exact List.getElem_mem _
 unfold qZ;split
 ·rcases sw f run (run.getD 0 0)with h1|h1
  ·rw[h1];exact h0
  ·exact h1
 ·exact vt h 0
theorem vx:V.z8 ev:=by
 refine⟨dX,dX,?_⟩;intro l hl o ho;simp only[ev,iL,List.not_mem_nil,or_false]at hl;rcases hl with rfl|rfl
 all_goals
  simp only[iL,List.not_mem_nil,or_false]at ho;rcases ho with rfl|rfl
  all_goals exact⟨dX,dX,dX,dX,fun c hc=>by cases hc⟩
theorem JO:V.xK ev [] 0 pV:=by
 have I:=V.GG vx (N:=2) oX (most:=1) oX [];have J:=I.grow dX (r:={places:=[]}) ⟨dX,dX,dX,dX,dX⟩ false;have R:=V.GH vx (N:=2) oX (most:=1) oX [];exact⟨⟨⟨_,J⟩,rfl,oX,R.drawn,rfl,R.ops,Nat.le_refl 0,fun m h=>bk0⟩,(V.wI vx (N:=2) oX (most:=1) oX [] dX).2.1,(V.aS0 ev 2 1 [] _ 1 _).imp id Nat.le_of_eq⟩
def QA(j:Nat)(S:Wd)(f:Int→Int):Prop:=V.xK ev [] j S∧j≤198∧∃a b:Int,f=vw a b∧(0≤a∧a≤j)∧(0≤b∧b≤j)∧GR (199-j) S a b=true
theorem GS(who:Int)(run:List Int)(f:Int→Int)(g:Int)(h:0≤f g):0≤iC who run f g∧iC who run f g≤f g+1:=by
 unfold iC;split<;>omega
theorem Ed{j:Nat}{S:Wd}(R:V.Row ev [] j S){i:Int}(h:i∈cE S.ax):(i=0∨i=1)∧∃k:Nat,i=k∧bU S.ax k=0:=by
 obtain⟨k,rfl,hk⟩:=V.sG h;refine⟨?_,k,rfl,hk⟩
 have hb:k<S.ax.length:=by
  rcases Nat.lt_or_ge k S.ax.length with h|h
  ·exact h
  ·unfold bU idx at hk;rw[aF oX]at hk;simp only[oU]at hk;rw[rq h]at hk;simp at hk
 obtain⟨ls,I⟩:=R.inv;have h1:=I.ax;have h2:S.gs.length=2:=by have:=congrArg List.length R.ops;simpa[ev]using this
 omega
theorem QA.next{j g:Nat}{S:Wd}{f:Int→Int}(h:QA j S f)(hr:cE S.ax≠[])(hg:qZ f (cE S.ax) 2 2=g):∃S',uj {S with av:=S.av+1} g S'∧j≠198∧QA (j+1) S' (iC g (cE S.ax) f):=by
 obtain⟨R,hj,a,b,rfl,ha,hb,hc⟩:=h;have hm:(g:Int)∈cE S.ax:=by rw[←hg];exact Al hr
 obtain⟨_,k,hk,jf⟩:=Ed R.1 hm;have hk:g=k:=oX
 subst hk;obtain⟨S',hD,R'⟩:=R.next dX oX jf;have hn:199-j=(198-j)+1:=oX
 rw[hn]at hc;have Ek:=Rh hc hr hg hD;have h98:j≠198:=by rintro rfl;simp[GR]at Ek
 refine⟨S',hD,h98,R',oX,_,_,?_,?_,?_,by rw[show 199-(j+1)=198-j by omega];exact Ek⟩
 ·funext i;unfold vw;by_cases h0:i=0
  ·subst h0;rfl
  ·by_cases h1:i=1
   ·subst h1;rfl
   ·rw[aE h0,aE h1];unfold iC;rw[aE (fun hh=>by have:=(Ed R.1 hh.1).1;omega)]
 ·have:=GS g (cE S.ax) (vw a b) 0 (by show(0:Int)≤a;exact ha.1);have e:vw a b 0=a:=rfl;omega
 ·have:=GS g (cE S.ax) (vw a b) 1 (by show(0:Int)≤b;exact hb.1);have e:vw a b 1=b:=rfl;omega
theorem Ee:Re QA 2 2 198:=by
 refine⟨fun j S f h=>?_,fun j S f h=>?_,fun j S f g h hg=>V.sG hg,fun j S f g h hj hg=>?_,fun j S f h=>?_,fun j S f h g=>?_,fun j S f h hj hr g hg=>?_⟩
 ·obtain⟨ls,I⟩:=h.1.1.inv;have:=I.ax;have:=I.n8;omega
 ·have:=h.1.1.av;have:=h.1.1.most;omega
 ·exact(V.Vh ev [] dX (fun v hv=>by cases hv)).aG j S g h.1 oX hg
 ·have:=congrArg List.length h.1.1.ops;simpa[ev]using this
 ·obtain⟨R,hj,a,b,rfl,ha,hb,hc⟩:=h;unfold vw;split
  ·omega
  ·split<;>omega
 ·obtain⟨S',h1,h2,h3⟩:=h.next hr hg;exact⟨S',h1,h3⟩
theorem QA.start:QA 0 pV (fun _=>0):=⟨JO,by omega,0,0,by
 funext i;unfold vw;split
 ·rfl
 ·split<;>rfl,oX,oX,M8⟩
theorem QA.fin{j:Nat}{S:Wd}{f:Int→Int}(h:QA j S f)(he:cE S.ax=[]∨j=198):cE S.ax=[]∧Rg S=true:=by
 by_cases hr:cE S.ax=[]
 ·refine⟨hr,?_⟩;obtain⟨R,hj,a,b,rfl,ha,hb,hc⟩:=h;rw[show 199-j=(198-j)+1 by omega]at hc;unfold GR at hc;rw[aF hr]at hc;exact hc
 ·exfalso;rcases he with he|he
  ·exact hr he
  ·have hm:=Al (f:=f) (k:=2) (n:=2) hr;obtain⟨_,k,hk,_⟩:=Ed h.1.1 hm;obtain⟨S',_,h98,_⟩:=h.next hr hk;exact h98 he
theorem uo:∀l∈ev,CY l:=by
 intro l hl;simp only[ev,iL,List.not_mem_nil,or_false]at hl;rcases hl with rfl|rfl
 all_goals
  refine⟨dX,fun o ho=>?_⟩;simp only[iL,List.not_mem_nil,or_false]at ho;rcases ho with rfl|rfl
  all_goals exact⟨bl6,bl6,bl6,bl6,dX,fun c hc=>by cases hc⟩
def Ef(wb bB gB bL gL bS cS bD gD bQ gQ qQ bP gP qP:Nat):bH→Option oJ
 | .al=>some (some wb,0,[I 2,I 1,I 0,.slice none 0 0,.pointer (some ⟨bB,0,none⟩),.slice none 0 0,.slice none 0 0,.pointer (some ⟨bL,0,none⟩),.pointer (some ⟨bQ,0,none⟩),.slice (some ⟨bS,0,none⟩) 2 cS,.pointer (some ⟨bP,0,none⟩),.pointer (some ⟨bD,0,none⟩),.slice none 0 0,.slice none 0 0])
 | .dB=>some (some bB,0,[.slice (some ⟨gB,0,none⟩) 2 2])
 | .ax=>some (some gB,2,bT ry 0 (List.replicate 2 (0,false)))
 | .dY=>some (some bL,0,[.slice (some ⟨gL,0,none⟩) 1 1])
 | .dQ=>some (some gL,1,[I (-1)])
 | .ah=>some (some bS,cS,bT mg 0 (List.replicate 2 {}))
 | .gN=>some (some bD,0,[.slice (some ⟨gD,0,none⟩) 0 0,I 0])
 | .list=>some (some gD,0,[])
 | .aw=>some (some bQ,0,[.slice (some ⟨gQ,0,none⟩) 2 2,.slice (some ⟨qQ,0,none⟩) 16 16])
 | .aS=>some (some gQ,2,bT oD 0 (List.replicate 2 {}))
 | .bM=>some (some qQ,16,bT rG 0 (List.replicate 16 {}))
 | .Eg=>some (some bP,0,[I 2,I 1,.slice (some ⟨gP,0,none⟩) 2 2,.slice none 0 0,I 0,.slice (some ⟨qP,0,none⟩) 2 2])
 | .aC=>some (some gP,2,[.slice none 0 0,.slice none 0 0])
 | .bV=>some (some qP,2,[B false,B false])
 |_=>none
def wO:Wd:={V.gj ev 2 1 []with aq:=[-1]}
theorem Xn{lo:Nat}{w0 wr:World}{wb bB gB bL gL bS cS bD gD bQ gQ qQ bP gP qP:Nat}{va:Option Addr}{vc:Nat}{f:bH→Option oJ}{B:Nat→CK→Option Nat}{K:Nat→CK→Nat}{C:Nat→CK→List Value}(G:Ny lo w0 wr (Ef wb bB gB bL gL bS cS bD gD bQ gQ qQ bP gP qP) (fun v=>[I 2,I 1,I 0,v,.pointer (some ⟨bB,0,none⟩),.slice none 0 0,.slice none 0 0,.pointer (some ⟨bL,0,none⟩),.pointer (some ⟨bQ,0,none⟩),.slice (some ⟨bS,0,none⟩) 2 cS,.pointer (some ⟨bP,0,none⟩),.pointer (some ⟨bD,0,none⟩),.slice none 0 0,.slice none 0 0]) wb ev 2 (.slice va 2 vc) f B K C):∃F m,F.al=wb∧bz lo F wr m wO:=by
 obtain⟨gb,yp⟩:∃gb,(f .gs).bind (·.1)=some gb:=by
  cases h:(f .gs).bind (·.1) with
  |none=>have:=G.cU;rw[h]at this;simp[nG]at this
  |some g=>exact⟨g,rfl⟩
 obtain⟨m,hm⟩:∃m:Mem,m=⟨fun r=>(f r).bind (·.1),fun r=>((f r).map (·.2.1)).getD 0⟩:=⟨_,rfl⟩;have ny:∀r,m.aV r=(f r).bind (·.1):=fun r=>by rw[hm]
 have G7:∀r,m.cap r=((f r).map (·.2.1)).getD 0:=fun r=>by rw[hm]
 have hf:∀r,r≠ .al→r≠ .gs→(∀i,r≠ .ops i)→(∀i q,r≠ .cases i q)→f r=Ef wb bB gB bL gL bS cS bD gD bQ gQ qQ bP gP qP r:=G.N7;have kK:∀r:bH,f r=none→∀q,m.cU r q=.slice none 0 0:=fun r h q=>by apply Mem.j6;rw[ny,h];rfl
 have AP:∀(r:bH) (b c n:Nat) (xs:List Value),f r=some (some b,c,xs)→m.cU r n=.slice (some ⟨b,0,none⟩) n c:=fun r b c n xs h=>by rw[Mem.de (show m.aV r=some b by rw[ny,h];rfl),G7,h];rfl
 have zD:∀(r:bH) (b c:Nat) (xs:List Value),f r=some (some b,c,xs)→m.ptr r=.pointer (some ⟨b,0,none⟩):=fun r b c xs h=>Mem.lz (show m.aV r=some b by rw[ny,h];rfl)
 have ht:∀i l,ev[i]?=some l→i<2:=fun i l h=>(cA h)
 have zd:∀g:Nat,wO.gs[g]?=(ev[g]?).map V.jQ:=fun g=>na ..
 have jM:∀r,aj m wO r=((f r).map (·.2.2)).getD []:=by
  intro r;have BZ:=hf r
  cases r with
  |al=>
   rw[G.al];have e1:m.cU .gs 2=.slice va 2 vc:=(by rw[qC,ny,G7];exact G.cU.symm);show[I 2,I 1,I 0,m.cU .gs 2,m.ptr .dB,m.cU .au 0,m.cU .aO 0,m.ptr .dY,m.ptr .aw,m.cU .ah 2,m.ptr .Eg,m.ptr .gN,m.cU .draws 0,m.cU .done 0]=_;rw[e1,zD .dB bB 0 _ (hf _ sX sX sX sX),kK .au (hf _ sX sX sX sX),kK .aO (hf _ sX sX sX sX),zD .dY bL 0 _ (hf _ sX sX sX sX),zD .aw bQ 0 _ (hf _ sX sX sX sX),AP .ah bS cS 2 _ (hf _ sX sX sX sX),zD .Eg bP 0 _ (hf _ sX sX sX sX),zD .gN bD 0 _ (hf _ sX sX sX sX),kK .draws (hf _ sX sX sX sX),kK .done (hf _ sX sX sX sX)];rfl
  |gs=>
   show bT (gk m) 0 (ev.map V.jQ)=_;rw[G.row,Aa,show ev.take 2=ev from rfl];refine gX _ fun i l hl=>?_
   show[m.cU (.ops i) l.length,_,_,_,_,_,_,_,_,_,_,_,_,_,_]++_++[m.cU (.aH i) 0,m.cU (.aq i) 0,m.cU (.bA i) 0,m.cU (.wakes i) 0,_]=_;rw[kK (.aH i) (hf _ sX sX sX sX),kK (.aq i) (hf _ sX sX sX sX),kK (.bA i) (hf _ sX sX sX sX),kK (.wakes i) (hf _ sX sX sX sX),qC,ny,G7,G.ops i l (ht i l hl) hl];rfl
  |ops g=>
   simp only[aj,zd]
   cases hg:ev[g]? with
   |none=>
    have:2≤g:=List.getElem?_eq_none_iff.1 hg;rw[(G.no g this).1];rfl
   |some l=>
    rw[G.ops g l (ht g l hg) hg];simp only[km,Option.getD_some];refine gX _ fun q o ho=>?_
    show[_,_,_,_,m.cU (.cases g q) _,_]=[_,_,_,_,_,_];rw[qC,ny,G7,G.cs g q (ht g l hg)];rfl
  |cases g j=>
   simp only[aj,zd]
   cases hg:ev[g]? with
   |none=>
    have:2≤g:=List.getElem?_eq_none_iff.1 hg;rw[(G.no g this).2 j];rfl
   |some l=>
    rw[G.cs g j (ht g l hg)];simp only[km,Option.getD_some]
    cases ho:l[j]? with
    |none=>
     rw[G.csn g l j (ht g l hg) hg ho];exact aZ7
    |some o=>
     rw[G.cse g l j o (ht g l hg) hg ho];exact aZ7
  |dB=>
   rw[hf _ sX sX sX sX];show[m.cU .ax 2]=_;rw[AP .ax gB 2 2 _ (hf _ sX sX sX sX)];rfl
  |ax=>
   exact aW6
  |dY=>
   rw[hf _ sX sX sX sX];show[m.cU .dQ 1]=_;rw[AP .dQ gL 1 1 _ (hf _ sX sX sX sX)];rfl
  |aw=>
   rw[hf _ sX sX sX sX];show[m.cU .aS 2,m.cU .bM 16]=_;rw[AP .aS gQ 2 2 _ (hf _ sX sX sX sX),AP .bM qQ 16 16 _ (hf _ sX sX sX sX)];rfl
  |Eg=>
   rw[hf _ sX sX sX sX];show[I 2,I 1,m.cU .aC 2,m.cU .aK 0,I 0,m.cU .bV 2]=_;rw[AP .aC gP 2 2 _ (hf _ sX sX sX sX),kK .aK (hf _ sX sX sX sX),AP .bV qP 2 2 _ (hf _ sX sX sX sX)];rfl
  |aC=>
   rw[hf _ sX sX sX sX];show[m.cU (.cache 0) 0,m.cU (.cache 1) 0]=_;rw[kK (.cache 0) (hf _ sX sX sX sX),kK (.cache 1) (hf _ sX sX sX sX)];rfl
  |cache g=>
   rw[hf _ sX sX sX sX];show(match([[],[]]:List (List Int))[g]? with|some c=>c.map I|none=>[])=[];rcases g with _|_|g<;>rfl
  |gN=>
   rw[hf _ sX sX sX sX];show[m.cU .list 0,I 0]=_;rw[AP .list gD 0 0 _ (hf _ sX sX sX sX)];rfl
  |au=>
   exact aW6
  |aO=>
   exact aW6
  |dQ=>
   exact aW6
  |aS=>
   exact aW6
  |bM=>
   exact aW6
  |ah=>
   exact aW6
  |aK=>
   exact aW6
  |bV=>
   exact aW6
  |list=>
   exact aW6
  |draws=>
   exact aW6
  |done=>
   exact aW6
  |eU i=>
   exact aW6
  |places i=>
   exact aW6
  |aH g=>
   exact aY7
  |aq g=>
   exact aY7
  |bA g=>
   exact aY7
  |wakes g=>
   exact aY7
 refine⟨{al:=wb,gs:=gb,dB:=bB,ax:=gB,dY:=bL,aw:=bQ,aS:=gQ,bM:=qQ,ah:=bS,Eg:=bP,aC:=gP,bV:=qP,gN:=bD},m,rfl,fun r r' b h h'=>?_,fun r b h=>?_,fun r h=>?_,?_⟩
 ·rw[ny]at h h';exact cN.inj G.own r r' b h h'
 ·rw[jM,G7];rw[ny]at h;exact cN.lies G.own r b h
 ·rw[jM];rw[ny]at h;exact cN.none_ G.own r h
 ·have k:∀(r:bH) (b c:Nat) (xs:List Value),Ef wb bB gB bL gL bS cS bD gD bQ gQ qQ bP gP qP r=some (some b,c,xs)→r≠ .al→r≠ .gs→(∀i,r≠ .ops i)→(∀i q,r≠ .cases i q)→m.aV r=some b:=fun r b c xs h h1 h2 h3 h4=>by rw[ny,hf r h1 h2 h3 h4,h];rfl
  exact⟨by rw[ny,G.al];rfl,by rw[ny];exact yp,k _ _ _ _ rfl sX sX sX sX,k _ _ _ _ rfl sX sX sX sX,k _ _ _ _ rfl sX sX sX sX,k _ _ _ _ rfl sX sX sX sX,k _ _ _ _ rfl sX sX sX sX,k _ _ _ _ rfl sX sX sX sX,k _ _ _ _ rfl sX sX sX sX,k _ _ _ _ rfl sX sX sX sX,k _ _ _ _ rfl sX sX sX sX,k _ _ _ _ rfl sX sX sX sX,k _ _ _ _ rfl sX sX sX sX⟩
def gA(l:List cu)(oa:Option Addr)(oc:Nat)(b1:Option Addr)(d1:Nat)(b2:Option Addr)(d2:Nat)(b3:Option Addr)(d3:Nat)(b4:Option Addr)(d4:Nat):Array Value:=
 #[.slice oa l.length oc,I 0,I 0,I 0,B false,I 0,B false,I (-1),I (-1),I (-1),I 0,I 0,I 0,I (-1),I (-1),I 0,I (-1),I 0,B false,I 0,.slice b1 0 d1,.slice b2 0 d2,.slice b3 0 d3,.slice b4 0 d4,I 0]
structure Cs(w:World)(ga ha sa ca:Option Addr):Prop where
 g:∃gb rB,ga=some ⟨gb,rB,none⟩∧∀(j:Nat) l,ev[j]?=some l→∃oa oc b1 d1 b2 d2 b3 d3 b4 d4,(∀q v,(gA l oa oc b1 d1 b2 d2 b3 d3 b4 d4)[q]?=some v→w.cell? ⟨gb,rB+j*25+q,none⟩=some v)∧kC w oa l
 h:∃hb Ls,ha=some ⟨hb,Ls,none⟩∧∀(q:Nat) v,(#[I 0,.slice none 0 0,B false,I (-1),.slice none 0 0,.slice none 0 0]:Array Value)[q]?=some v→w.cell? ⟨hb,Ls+q,none⟩=some v
 s:gC w sa 2 (bT mg 0 (List.replicate 2 {}))
 c:∃cb off a0 c0 a1 c1,ca=some ⟨cb,off,none⟩∧cb<w.heap.size∧w.cell? ⟨cb,off,none⟩=some (.slice a0 0 c0)∧w.cell? ⟨cb,off+1,none⟩=some (.slice a1 0 c1)
theorem Cs.below{w w':World}{ga ha sa ca:Option Addr}(H:Cs w ga ha sa ca)(hb:Below w.heap.size w w'):Cs w' ga ha sa ca:=by
 obtain⟨gb,rB,e1,h1⟩:=H.g;obtain⟨ff,Ls,e2,h2⟩:=H.h;obtain⟨cb,off,a0,c0,a1,c1,e3,dD,h3,h4⟩:=H.c;refine⟨⟨gb,rB,e1,fun j l hl=>?_⟩,⟨ff,Ls,e2,fun q v hv=>cw hb cG _ _ (h2 q v hv)⟩,H.s.below hb cG,⟨cb,off,a0,c0,a1,c1,e3,uB dD hb.size,cw hb cG _ _ h3,cw hb cG _ _ h4⟩⟩;obtain⟨oa,oc,b1,d1,b2,d2,b3,d3,b4,d4,k1,k2⟩:=h1 j l hl;exact⟨oa,oc,b1,d1,b2,d2,b3,d3,b4,d4,fun q v hv=>cw hb cG _ _ (k1 q v hv),k2.below hb cG⟩
def ofF(wb bB gB bL gL bS cS bD gD:Nat):bH→Option oJ
 | .al=>some (some wb,0,[I 2,I 1,I 0,.slice none 0 0,.pointer (some ⟨bB,0,none⟩),.slice none 0 0,.slice none 0 0,.pointer (some ⟨bL,0,none⟩),.pointer none,.slice (some ⟨bS,0,none⟩) 2 cS,.pointer none,.pointer (some ⟨bD,0,none⟩),.slice none 0 0,.slice none 0 0])
 | .dB=>some (some bB,0,[.slice (some ⟨gB,0,none⟩) 2 2])
 | .ax=>some (some gB,2,bT ry 0 (List.replicate 2 (0,false)))
 | .dY=>some (some bL,0,[.slice (some ⟨gL,0,none⟩) 1 1])
 | .dQ=>some (some gL,1,[I (-1)])
 | .ah=>some (some bS,cS,bT mg 0 (List.replicate 2 {}))
 | .gN=>some (some bD,0,[.slice (some ⟨gD,0,none⟩) 0 0,I 0])
 | .list=>some (some gD,0,[])
 |_=>none
theorem GU(W:World):Calls prog 79 #[I 2,I 16] W fun e w'=>∃b g q,e=.returned (.tuple #[.pointer (some ⟨b,0,none⟩),I 0])∧eh W.heap.size W w' [(.aw,some b,0,[.slice (some ⟨g,0,none⟩) 2 2,.slice (some ⟨q,0,none⟩) 16 16]),(.aS,some g,2,bT oD 0 (List.replicate 2 {})),(.bM,some q,16,bT rG 0 (List.replicate 16 {}))]:=by
 have X0:eh W.heap.size W W []:=⟨fp _ _,Nat.le_refl _,sX,fun e h=>bj5,fun e h=>bj5⟩;exact BN 2 oX X0
theorem Vj:∃d,prog.underlying 59=some d∧(match d with| .struct _| .array _ _=>true|_=>false)=true:=by
 have h:(match prog.underlying 59 with|some d=>(match d with| .struct _| .array _ _=>true|_=>false)|none=>false)=true:=kX
 cases hd:prog.underlying 59 with
 |none=>rw[hd]at h;cases h
 |some d=>rw[hd]at h;exact⟨d,rfl,h⟩
theorem JP:(prog.info? 59).map (·.size)=some 6:=kX
section
variable(ga ha sa ca ma da xa:Option Addr)(gc hc sc cc mc dc xc:Nat)(w:World)(H:Cs w ga ha sa ca)
include ga ha sa ca ma da xa gc hc sc cc mc dc xc w H
theorem Un:Calls prog 74 #[.agg #[I 2,I 1,I 0,.slice ga 2 gc,.slice ha 1 hc,.slice sa 2 sc,.slice ca 2 cc,.slice ma 0 mc,I 0,.slice da 0 dc,I 0,.slice xa 0 xc]] w fun e w'=>∃F m,e=.returned (.pointer (some ⟨F.al,0,none⟩))∧bz (w.heap.size+1) F w' m pV∧Below w.heap.size w w':=by
 obtain⟨gb,rB,rfl,hgx⟩:=H.g;obtain⟨cb,uq,rfl,Yq⟩:=H.h;have oR:Hid (∀(j:Nat) l,ev[j]?=some l→∃oa oc b1 d1 b2 d2 b3 d3 b4 d4,(∀q v,(gA l oa oc b1 d1 b2 d2 b3 d3 b4 d4)[q]?=some v→w.cell? ⟨gb,rB+j*25+q,none⟩=some v)∧kC w oa l):=hgx;have HCX:Hid (∀(q:Nat) v,(#[I 0,.slice none 0 0,B false,I (-1),.slice none 0 0,.slice none 0 0]:Array Value)[q]?=some v→w.cell? ⟨cb,uq+q,none⟩=some v):=Yq;clear hgx Yq;obtain⟨i0,hi,fV,gF,gG⟩:=info_parts xU;obtain⟨i3,gi,RO,RP,RQ⟩:=info_parts uS;obtain⟨i1,ki,JV,JW,JX⟩:=info_parts xO;obtain⟨i2,li,lz0,lz1,lz2⟩:=info_parts Pv;obtain⟨wA,tY⟩:=dC (w.alloc (.cells #[I 2,I 1,I 0,.slice (some ⟨gb,rB,none⟩) 2 gc,.slice (some ⟨cb,uq,none⟩) 1 hc,.slice sa 2 sc,.slice ca 2 cc,.slice ma 0 mc,I 0,.slice da 0 dc,I 0,.slice xa 0 xc] 41));have JL:Below w.heap.size w wA:=bs1
 obtain⟨ab,G3⟩:∃r,r=w.heap.size:=⟨_,rfl⟩;have ZR:wA.heap[ab]?=some (.cells #[I 2,I 1,I 0,.slice (some ⟨gb,rB,none⟩) 2 gc,.slice (some ⟨cb,uq,none⟩) 1 hc,.slice sa 2 sc,.slice ca 2 cc,.slice ma 0 mc,I 0,.slice da 0 dc,I 0,.slice xa 0 xc] 41 (0,0)):=by rw[tY,G3];exact dP _ _
 have FI:wA.heap.size=ab+1:=by rw[tY,G3];simp
 have Ao:Hid (∀W,Below wA.heap.size wA W→W.cell? ⟨ab,0,none⟩=some (I 2)∧W.cell? ⟨ab,1,none⟩=some (I 1)∧W.cell? ⟨ab,2,none⟩=some (I 0)∧W.cell? ⟨ab,3,none⟩=some (.slice (some ⟨gb,rB,none⟩) 2 gc)∧W.cell? ⟨ab,4,none⟩=some (.slice (some ⟨cb,uq,none⟩) 1 hc)∧W.cell? ⟨ab,5,none⟩=some (.slice sa 2 sc)∧W.cell? ⟨ab,9,none⟩=some (.slice da 0 dc)∧W.cell? ⟨ab,11,none⟩=some (.slice xa 0 xc)):=fun W hb=>by
  have k:∀j v,(#[I 2,I 1,I 0,.slice (some ⟨gb,rB,none⟩) 2 gc,.slice (some ⟨cb,uq,none⟩) 1 hc,.slice sa 2 sc,.slice ca 2 cc,.slice ma 0 mc,I 0,.slice da 0 dc,I 0,.slice xa 0 xc]:Array Value)[j]?=some v→W.cell? ⟨ab,j,none⟩=some v:=fun j v hv=>cw hb cG _ _ (by rw[cr _ _ _ _ _ _ ZR];exact hv)
  exact⟨k 0 _ rfl,k 1 _ rfl,k 2 _ rfl,k 3 _ rfl,k 4 _ rfl,k 5 _ rfl,k 9 _ rfl,k 11 _ rfl⟩
 have HSR:Hid (∀W,Below wA.heap.size wA W→W.cell? ⟨ab,6,none⟩=some (.slice ca 2 cc)∧W.cell? ⟨ab,7,none⟩=some (.slice ma 0 mc)∧W.cell? ⟨ab,8,none⟩=some (I 0)∧W.cell? ⟨ab,10,none⟩=some (I 0)):=fun W hb=>by
  have k:∀j v,(#[I 2,I 1,I 0,.slice (some ⟨gb,rB,none⟩) 2 gc,.slice (some ⟨cb,uq,none⟩) 1 hc,.slice sa 2 sc,.slice ca 2 cc,.slice ma 0 mc,I 0,.slice da 0 dc,I 0,.slice xa 0 xc]:Array Value)[j]?=some v→W.cell? ⟨ab,j,none⟩=some v:=fun j v hv=>cw hb cG _ _ (by rw[cr _ _ _ _ _ _ ZR];exact hv)
  exact⟨k 6 _ rfl,k 7 _ rfl,k 8 _ rfl,k 10 _ rfl⟩
 have HO:=ag (H.below JL);have HW:Hid (ab=w.heap.size∧wA.heap.size=ab+1∧Below w.heap.size w wA):=⟨G3,FI,JL⟩;have HB:=ag (fun(w1:World) (L:List (bH×oJ)) (H:eh wA.heap.size wA w1 L)=>show Calls prog 80 #[I 2] w1 (fun e w'=>∃b g,e=.returned (.pointer (some ⟨b,0,none⟩))∧eh wA.heap.size wA w' ((.dB,some b,0,[.slice (some ⟨g,0,none⟩) 2 2])::(.ax,some g,2,bT ry 0 (List.replicate 2 (0,false)))::L))from BM 2 oX oX H);have HL:=ag (fun(w1:World) (L:List (bH×oJ)) (H:eh wA.heap.size wA w1 L)=>Jj H);have RJ:=ag (fun(w1:World) (L:List (bH×oJ)) (H:eh wA.heap.size wA w1 L)=>E0 [] 0 rfl da dc H ⟨dX,fun h=>bj5⟩ oX)
 have LD:=ag (fun(ops:Array Oper) (o:Oper) (ac:Act) (K:Act→World→Prop) (Q:Exit→Act→World→Prop) (E:Prop) (w1:World) (L:List (bH×oJ)) (H:eh wA.heap.size wA w1 L)=>uT (P:=prog) (ops:=ops) (o:=o) (a:=ac) (w:=w1) (K:=K) (Q:=Q) (E:=E) (s:=.const (.slice none 0 0)) (x:=.tmp 21) (t:=37) (ht:=underlying37) (hi:=hi) (hz:=fV) (hsize:=gF) (hby:=gG) (hzs:=rfl) (hsz:=dX) (hbb:=dX)
  (ao:=sa) (n:=2) (c:=sc) (cs:=bT mg 0 (List.replicate 2 {})) (hl:=rfl) (hc:=HO.out.s.below H.below cG) (h1:=dX) (hn:=oX) (H:=H) (r:=.ah) (hr:=br1))
 have X0:eh wA.heap.size wA wA []:=⟨fp _ _,Nat.le_refl _,sX,fun e h=>bj5,fun e h=>bj5⟩;have X1:=ag X0;have X:=ag X0.drew;have hS:=Ao.out _ X.out.below;clear H JL ZR FI X0;go_enter func74,ntmps74;go_upto_region 1 with fail
 rw[←tY,←G3];clear tY G3;go_cut [3]from 8 to 33 (fun x wx=>∃wb bB gB bL gL bS cS bD gD,x=.pointer (some ⟨wb,0,none⟩)∧Hid (eF wA.heap.size wA wx (ofF wb bB gB bL gL bS cS bD gD)))
 case first=>
  go_region_held3 (fun W=>W.cell? ⟨ab,0,none⟩=some (I 2)∧W.cell? ⟨ab,1,none⟩=some (I 1)∧W.cell? ⟨ab,2,none⟩=some (I 0)∧W.cell? ⟨ab,3,none⟩=some (.slice (some ⟨gb,rB,none⟩) 2 gc)∧W.cell? ⟨ab,4,none⟩=some (.slice (some ⟨cb,uq,none⟩) 1 hc)∧W.cell? ⟨ab,5,none⟩=some (.slice sa 2 sc)∧W.cell? ⟨ab,9,none⟩=some (.slice da 0 dc)∧W.cell? ⟨ab,11,none⟩=some (.slice xa 0 xc)) (first|with_reducible exact hS|go_keep)
   (first
    |((first|(have X9:=ag (X.out);with_reducible refine LD.out _ _ _ _ _ _ _ _ X9.out rfl rfl bj0 bj0 ?_)|(have X9:=ag (X.out.drew);with_reducible refine LD.out _ _ _ _ _ _ _ _ X9.out rfl rfl bj0 bj0 ?_));intro hb cS wC hgC x Et;have X:=ag x;have hS:=Ao.out _ X.out.below;clear x hgC)
    |(refine zJ rfl (.const (.slice none 0 0)) (.tmp 27) 25 rfl underlying25 ki rfl da dc bj0 ?_)
    |(refine zJ rfl (.const (.slice none 0 0)) (.tmp 30) 39 rfl underlying39 li rfl xa xc bj0 ?_)
    |(go_at_call 80;(first|(have X9:=ag (X.out);with_reducible refine(HB.out _ _ X9.out).mono ?_)|(have X9:=ag (X.out.drew);with_reducible refine(HB.out _ _ X9.out).mono ?_));rintro e wB ⟨bB,gB,rfl,x⟩;have X:=ag x;have hS:=Ao.out _ X.out.below;clear x)
    |(go_at_call 81;(first|(have X9:=ag (X.out);with_reducible refine(HL.out _ _ X9.out).mono ?_)|(have X9:=ag (X.out.drew);with_reducible refine(HL.out _ _ X9.out).mono ?_));rintro e wL ⟨bL,gL,rfl,x⟩;have X:=ag x;have hS:=Ao.out _ X.out.below;clear x)
    |(go_at_call 82;(first|(have X9:=ag (X.out);with_reducible refine(RJ.out _ _ X9.out).mono ?_)|(have X9:=ag (X.out.drew);with_reducible refine(RJ.out _ _ X9.out).mono ?_));rintro e wD ⟨bD,gD,rfl,x⟩;have X:=ag x;have hS:=Ao.out _ X.out.below;clear x)
    | fail "no arm")
  obtain⟨bS,rfl⟩:∃b,hb=some b:=by
   cases hb with
   |none=>have:=(Et rfl).1;omega
   |some b=>exact⟨b,rfl⟩
  go_wp2_with fail
  go_meet;refine⟨_,bB,gB,bL,gL,bS,cS,bD,gD,rfl,?_⟩;have Y:=X.out.Og ((fp wD.heap.size wD).alloc cG (.cells #[I 2,I 1,I 0,.slice none 0 0,.pointer (some ⟨bB,0,none⟩),.slice none 0 0,.slice none 0 0,.pointer (some ⟨bL,0,none⟩),.pointer none,.slice (some ⟨bS,0,none⟩) 2 cS,.pointer none,.pointer (some ⟨bD,0,none⟩),.slice none 0 0,.slice none 0 0] 94)) .al wD.heap.size 0 [I 2,I 1,I 0,.slice none 0 0,.pointer (some ⟨bB,0,none⟩),.slice none 0 0,.slice none 0 0,.pointer (some ⟨bL,0,none⟩),.pointer none,.slice (some ⟨bS,0,none⟩) 2 cS,.pointer none,.pointer (some ⟨bD,0,none⟩),.slice none 0 0,.slice none 0 0] cG (fF (dP _ _) rfl (fun p h=>bp2));exact ag (Y.own (f:=ofF wD.heap.size bB gB bL gL bS cS bD gD) (fun k=>by cases k<;>first|exact .inl rfl|exact .inr rfl))
 case rest=>
  obtain⟨wb,bB,gB,bL,gL,bS,cS,bD,gD,rfl,HF⟩:=hcut;clear X X1 hS HB HL RJ LD;have HQ:=ag GU
  have HP:Hid (∀W,Below wA.heap.size wA W→Calls prog 131 #[I 2,I 1,.slice ca 2 cc,.slice ma 0 mc,I 0] W fun e w'=>∃b g q,e=.returned (.tuple #[.pointer (some ⟨b,0,none⟩),I 0])∧
    eh W.heap.size W w' [(.Eg,some b,0,[I 2,I 1,.slice (some ⟨g,0,none⟩) 2 2,.slice none 0 0,I 0,.slice (some ⟨q,0,none⟩) 2 2]),(.aC,some g,2,[.slice none 0 0,.slice none 0 0]),(.bV,some q,2,[B false,B false])]):=fun W hb=>by
   obtain⟨cb,off,a0,c0,a1,c1,e3,dD,h3,h4⟩:=(HO.out.below hb).c;exact Gf ca ma a0 a1 cc mc c0 c1 W ⟨cb,off,e3,dD,h3,h4⟩
  obtain⟨_,_,_,_,_,s5,_,_⟩:=Ao.out _ HF.out.uw.1;go_upto_region 3 with(go_at_call 79;refine(HQ _).mono ?_;rintro e w3 ⟨bQ,gQ,qQ,rfl,a3⟩;have HF3:=ag (HF.out.aa6 a3);have c8:=HF3.out.cell (r:=.al) (b:=wb) (cp:=0) (j:=8) bn8 rfl;have f8:=HF3.out.frozen (r:=.al) (b:=wb) (cp:=0) bn8 8;clear a3)
  have hf4:=HF3.out.set (r:=.al) (b:=wb) (cp:=0) (j:=8) (v:=.pointer (some ⟨bQ,0,none⟩)) bn8;obtain⟨w4,xX⟩:=dC (w3.setCell ⟨wb,8,none⟩ (.pointer (some ⟨bQ,0,none⟩)));rw[←xX]at hf4 ⊢;have HF4:=ag hf4;clear hf4 xX c8 f8 HF3 HF s5;obtain⟨s0,s1,_⟩:=Ao.out _ HF4.out.uw.1;obtain⟨s6,s7,s8,_⟩:=HSR.out _ HF4.out.uw.1;go_upto_region 4 with(go_at_call 131;refine(HP _ HF4.out.uw.1).mono ?_;rintro e w5 ⟨bP,gP,qP,rfl,a5⟩;have HF5:=ag (HF4.out.aa6 a5);have Fq:=HF5.out.cell (r:=.al) (b:=wb) (cp:=0) (j:=10) bn8 rfl;have f10:=HF5.out.frozen (r:=.al) (b:=wb) (cp:=0) bn8 10;clear a5)
  have hf6:=HF5.out.set (r:=.al) (b:=wb) (cp:=0) (j:=10) (v:=.pointer (some ⟨bP,0,none⟩)) bn8;obtain⟨w6,Q6⟩:=dC (w5.setCell ⟨wb,10,none⟩ (.pointer (some ⟨bP,0,none⟩)));rw[←Q6]at hf6 ⊢;have HF6:Hid (eF wA.heap.size wA w6 (Ef wb bB gB bL gL bS cS bD gD bQ gQ qQ bP gP qP)):=ag (hf6.congr (fun k=>by cases k<;>rfl));clear hf6 Q6 Fq f10 HF5 HF4 s0 s1 s6 s7 s8 HQ HP;have HSK:Hid (∀W:World,Below w6.heap.size w6 W→Calls prog 132 #[.pointer (some ⟨bD,0,none⟩),I 0] W fun e w'=>e=.returned (.tuple #[])∧eF wA.heap.size wA w' (Ef wb bB gB bL gL bS cS bD gD bQ gQ qQ bP gP qP)):=fun W hb=>by have F:=HF6.out.eC hb;refine(JG bD _ 0 W (F.cell (r:=.gN) (cp:=0) (j:=0) bn8 rfl) (F.cell (r:=.gN) (cp:=0) (j:=1) bn8 rfl) (F.frozen (r:=.gN) (cp:=0) bn8 1)).mono ?_;rintro e w' ⟨he,n,rfl⟩;refine⟨he,?_⟩;have G:eF wA.heap.size wA (W.drewN n) (Ef wb bB gB bL gL bS cS bD gD bQ gQ qQ bP gP qP):=F.eC ⟨rfl,rfl,rfl,Nat.le_refl _,fun b hb=>rfl⟩;exact G.same (r:=.gN) (cp:=0) (j:=1) bn8 rfl
  have ZI:=HF6.out.cell (r:=.al) (b:=wb) (cp:=0) (j:=11) bn8 rfl;obtain⟨_,_,_,V1⟩:=HSR.out _ HF6.out.uw.1
  go_region_held3 (fun W=>W.cell? ⟨wb,11,none⟩=some (.pointer (some ⟨bD,0,none⟩))∧W.cell? ⟨ab,10,none⟩=some (I 0)) (first|exact⟨ZI,V1⟩|go_keep)
   (first
    |(go_at_call 132;refine(HSK _ ?_).mono ?_;exact(fp _ _).drew;rintro e w7 ⟨rfl,hf⟩;have US:=ag hf;have ZI:=hf.cell (r:=.al) (b:=wb) (cp:=0) (j:=11) bn8 rfl;obtain⟨_,_,_,V1⟩:=HSR.out _ hf.uw.1;clear hf)
    | fail "no arm")
  clear HSK HF6 HSR;obtain⟨_,_,_,s3,s4,_,_,_⟩:=Ao.out _ US.out.uw.1;go_wp2_with fail
  have GV:Below w.heap.size w wA:=HW.out.2.2;have HGA:Hid (∀(j:Nat) l,ev[j]?=some l→∃oa oc b1 d1 b2 d2 b3 d3 b4 d4,∀W,Below wA.heap.size wA W→(∀q v,(gA l oa oc b1 d1 b2 d2 b3 d3 b4 d4)[q]?=some v→W.cell? ⟨gb,rB+j*25+q,none⟩=some v)∧kC W oa l):=fun j l hl=>by obtain⟨oa,oc,b1,d1,b2,d2,b3,d3,b4,d4,k1,k2⟩:=oR.out j l hl;refine⟨oa,oc,b1,d1,b2,d2,b3,d3,b4,d4,fun W hb=>?_⟩;have hB:=GV.trans (hb.mono (by have:=HW.out.1;have:=HW.out.2.1;omega));exact⟨fun q v hv=>cw hB cG _ _ (k1 q v hv),k2.below hB cG⟩
  have h0:Hid (∃f B K C,Ny wA.heap.size wA w7 (Ef wb bB gB bL gL bS cS bD gD bQ gQ qQ bP gP qP) (fun v=>[I 2,I 1,I 0,v,.pointer (some ⟨bB,0,none⟩),.slice none 0 0,.slice none 0 0,.pointer (some ⟨bL,0,none⟩),.pointer (some ⟨bQ,0,none⟩),.slice (some ⟨bS,0,none⟩) 2 cS,.pointer (some ⟨bP,0,none⟩),.pointer (some ⟨bD,0,none⟩),.slice none 0 0,.slice none 0 0]) wb ev 0 (.slice none 0 0) f B K C):=
   ⟨_,(fun _ _=>none),(fun _ _=>0),(fun _ _=>[]),US,rfl,rfl,rfl,fun i l h=>oX,fun i q h=>oX,fun i l q o h=>oX,fun i l q h=>oX,fun i h=>⟨rfl,fun q=>rfl⟩,fun k _ _ _ _=>rfl⟩
  clear US ZI V1 GV;go_loopw [73] (fun i wr=>∃(j:Nat) (va:Option Addr) (vc:Nat),i=.int .i64 j∧j≤2∧Hid (∃f B K C,Ny wA.heap.size wA wr (Ef wb bB gB bL gL bS cS bD gD bQ gQ qQ bP gP qP) (fun v=>[I 2,I 1,I 0,v,.pointer (some ⟨bB,0,none⟩),.slice none 0 0,.slice none 0 0,.pointer (some ⟨bL,0,none⟩),.pointer (some ⟨bQ,0,none⟩),.slice (some ⟨bS,0,none⟩) 2 cS,.pointer (some ⟨bP,0,none⟩),.pointer (some ⟨bD,0,none⟩),.slice none 0 0,.slice none 0 0]) wb ev j (.slice va j vc) f B K C)) (fun i _=>2-(intOf i).toNat)
  case atStart=>exact⟨0,none,0,rfl,oX,h0⟩
  case round=>
   clear h0;obtain⟨j,va,vc,rfl,hj,HG⟩:=hrel;by_cases dD:j<2
   ·skip;obtain⟨l,hl⟩:∃l,ev[j]?=some l:=⟨_,fv dD⟩;obtain⟨f,fB,fK,fC,G⟩:=HG.out;obtain⟨oa,oc,b1,d1,b2,d2,b3,d3,b4,d4,jF⟩:=HGA.out j l hl;obtain⟨A,hA⟩:=dC (gA l oa oc b1 d1 b2 d2 b3 d3 b4 d4);have KX:Hid (A.size=25):=(by rw[hA];exact ag rfl);have ri:Hid (A.all (·.oneCell')=true):=(by rw[hA];exact ag (by simp[gA,Value.oneCell']));have RX:Hid (A[0]?=some (.slice oa l.length oc)∧A[20]?=some (.slice b1 0 d1)∧A[21]?=some (.slice b2 0 d2)∧A[22]?=some (.slice b3 0 d3)∧A[23]?=some (.slice b4 0 d4)∧A[3]?=some (I 0)∧A[4]?=some (B false)∧∀v,qh A v (.slice none 0 0) (.slice none 0 0) (.slice none 0 0) (.slice none 0 0)=(aW0 v).toArray):=(by rw[hA];exact ag ⟨rfl,rfl,rfl,rfl,rfl,rfl,rfl,fun v=>rfl⟩);rw[←hA]at jF;have CZ:=ag jF;have ja:=G.own.uw;have HGC:Hid (∀q v,A[q]?=some v→wr.cell? ⟨gb,rB+j*25+q,none⟩=some v):=(CZ wr ja.1).1;have sJ:=ag G;have HLL:=ag hl;clear jF hA HG;go_upto_region 7 with fail
    repeat(fail_if_success (refine wpList_load_mid rfl 100 (.tmp 76) rfl gb (rB+j*25) rfl A ?_ ?_ ?_ ?_));go_step
    refine wpList_load_mid rfl 100 (.tmp 76) rfl gb (rB+j*25) rfl A HGC mC bo8 ?_;repeat(fail_if_success (refine df rfl 100 (.tmp 5) (.tmp 77) rfl wr.heap.size rfl _ A rfl rfl ?_ ?_ ?_ ?_));go_step
    refine df rfl 100 (.tmp 5) (.tmp 77) rfl wr.heap.size rfl _ A rfl rfl bo8 (by rw[KX.out];rfl) ri ?_;go_upto_region 8 with fail
    obtain⟨w1,jk⟩:=dC (wr.alloc (.cells A 100));obtain⟨mb,ny⟩:∃b,b=wr.heap.size:=⟨_,rfl⟩;rw[←jk,←ny];have gq:Below wr.heap.size wr w1:=bn1;have eE:w1.heap[mb]?=some (.cells A 100 (0,0)):=(by rw[jk,ny];exact dP _ _);have rh:w1.heap.size=mb+1:=(by rw[jk,ny];simp);have m3:w1.cell? ⟨mb,3,none⟩=some (I 0):=(by rw[cr _ _ _ _ _ _ eE];exact RX.out.2.2.2.2.2.1);have m4:w1.cell? ⟨mb,4,none⟩=some (B false):=(by rw[cr _ _ _ _ _ _ eE];exact RX.out.2.2.2.2.2.2.1);have hF1:=sJ.out.own.eC gq;have c4:=hF1.cell (j:=4) sJ.out.al rfl;have hfS:f .dB=some (some bB,0,[.slice (some ⟨gB,0,none⟩) 2 2]):=sJ.out.N7 .dB sX sX (fun i=>sX) (fun i q=>sX);have Xo:f .ax=some (some gB,2,bT ry 0 (List.replicate 2 (0,false))):=sJ.out.N7 .ax sX sX (fun i=>sX) (fun i q=>sX);have hgm:gB<mb:=by rw[ny];exact(sJ.out.own.lt Xo).2
    have pI:Hid (∀W,Below w1.heap.size w1 W→Calls prog 133 #[.pointer (some ⟨bB,0,none⟩),I j,I 0,.bool false] W fun e w'=>e=.returned (.bool true)∧eF wA.heap.size wA w' f∧w'.heap[mb]?=some (.cells A 100 (0,0))∧mb<w'.heap.size):=fun W hb=>by
     have F:=hF1.eC hb;have q1:(bT ry 0 (List.replicate 2 ((0:Int),false)))[j*2]?=some (I 0):=(by rcases(show j=0∨j=1 by omega)with rfl|rfl<;>rfl);have q2:(bT ry 0 (List.replicate 2 ((0:Int),false)))[j*2+1]?=some (B false):=(by rcases(show j=0∨j=1 by omega)with rfl|rfl<;>rfl);refine(MZ bB gB j 2 W (F.cell (j:=0) hfS rfl) dD (F.cell (j:=j*2) Xo q1) (F.cell (j:=j*2+1) Xo q2) (F.frozen Xo)).mono ?_;rintro e w' ⟨he,rfl⟩;refine⟨he,(F.same Xo q1).same Xo q2,?_,?_⟩
     ·rw[fQ _ _ _ _ bi8,fQ _ _ _ _ bi8,hb.block mb oX];exact eE
     ·have:=hb.size;simp[World.setCell];omega
    have Zz:Hid (mb=wr.heap.size):=ny;clear jk gq eE rh hF1 hfS Xo hgm ja HGC ny
    go_region_held3 (fun W=>W.cell? ⟨wb,4,none⟩=some (.pointer (some ⟨bB,0,none⟩))∧W.cell? ⟨mb,3,none⟩=some (I 0)∧W.cell? ⟨mb,4,none⟩=some (B false)) (first|exact⟨c4,m3,m4⟩|go_keep)
     (first
      |(go_at_call 133;refine(pI _ ?_).mono ?_;exact(fp _ _).drew;rintro e w2 ⟨rfl,hf,hx,hsz⟩;have c4:=hf.cell (j:=4) sJ.out.al rfl;have m3:w2.cell? ⟨mb,3,none⟩=some (I 0):=(by rw[cr _ _ _ _ _ _ hx];exact RX.out.2.2.2.2.2.1);have m4:w2.cell? ⟨mb,4,none⟩=some (B false):=(by rw[cr _ _ _ _ _ _ hx];exact RX.out.2.2.2.2.2.2.1);have Rt:=ag (dO hf (dO hx hsz));clear hf hx hsz)
      | fail "no arm")
    have tP:Hid (Calls prog 49 #[.agg A] w2 fun e w'=>∃la ln lc A2,e=.returned (.agg A2)∧A2=(NC la ln lc)∧∃aV cap c,.slice la ln lc=nG (aV (some (.ops 0))) l.length (cap (some (.ops 0)))∧JD w2 w' l aV cap c):=(by refine(GK A KX ri l oa oc RX.out.1 (uo l (lf HLL)) b1 b2 b3 b4 d1 d2 d3 d4 RX.out.2.1 RX.out.2.2.1 RX.out.2.2.2.1 RX.out.2.2.2.2.1 w2 (CZ w2 Rt.out.1.uw.1).2).mono ?_;rintro e w' ⟨aV,cap,c,rfl,hR⟩;obtain⟨la,ln,lc,hm⟩:=Cq (aV (some (.ops 0))) l.length (cap (some (.ops 0)));rw[hm,RX.out.2.2.2.2.2.2.2];exact⟨la,ln,lc,_,rfl,rfl,aV,cap,c,hm.symm,hR⟩);clear pI c4 m3 m4 CZ;go_upto_region 9 with fail
    refine wp_region_lit ?_;refine wpList_load_mid rfl 100 (.tmp 5) rfl mb 0 rfl A (fun q v hq=>by rw[Nat.zero_add,cr _ _ _ _ _ _ Rt.out.2.1];exact hq) mC bo8 ?_
    go_upto_region 10 with(first
     |(go_at_call 49;refine tP.out.mono ?_;rintro e w3 ⟨la,ln,lc,A2,rfl,Lf,hR⟩;have nM:w3.heap[mb]?=some (.cells A 100 (0,0)):=(by obtain⟨aV,cap,c,_,hR⟩:=hR;exact(hR.own.below.block mb Rt.out.2.2).trans Rt.out.2.1);have SB:=ag (dO hR nM);have nx:=ag Lf;clear hR nM Lf)
     |(refine cB rfl 100 (.tmp 5) (.tmp 89) rfl mb 0 A2 rfl rfl (by rw[nx.out];exact fE) (fun q hq=>by rw[cr _ _ _ _ _ _ SB.out.2,Nat.zero_add,xL (by rw[KX.out];rw[nx.out]at hq;exact hq)];rfl) (fun q hq=>iM _ _ _ _ _ SB.out.2) (by rw[nx.out];simp[Value.oneCell']) ?_)
     |fail)
    obtain⟨w4,xX⟩:=dC (w3.setCells mb 0 A2.toList);rw[←xX];obtain⟨aV,cap,c,hm,hR⟩:=SB.out.1;have vB:w4.heap[mb]?=some (.cells A2 100 (0,0)):=(by rw[xX];exact dI SB.out.2 (by rw[KX.out,nx.out];rfl));have hlm:wA.heap.size≤mb:=(by rw[Zz.out];exact sJ.out.own.uw.2);have hn:∀k b q ys,iK j f aV cap c k=some (some b,q,ys)→b≠mb:=(by rw[Zz.out];exact sJ.out.aa7 hR.own (by rw[←Zz.out];exact Rt.out.2.2));have hF3:eF wA.heap.size wA w3 (iK j f aV cap c):=Rt.out.1.clone hR.own;have hF4:eF wA.heap.size wA w4 (iK j f aV cap c):=(by rw[xX];exact eF.KD hF3 hn hlm _ _ _ hF3);have y3:w4.cell? ⟨mb,3,none⟩=some (I 0):=(by rw[cr _ _ _ _ _ _ vB,nx.out];rfl);have y4:w4.cell? ⟨mb,4,none⟩=some (B false):=(by rw[cr _ _ _ _ _ _ vB,nx.out];rfl);have yf3:=iM w4 mb 3 _ _ vB;have yf4:=iM w4 mb 4 _ _ vB;have H4:=ag (dO vB (dO hlm (dO hn hF4)));have Bg:=ag (dO hm hR);clear xX vB hlm hn hF3 hF4 SB tP hm hR;go_upto_region 11 with fail
    obtain⟨w5,Ha⟩:=dC ((w4.setCell ⟨mb,3,none⟩ (I 0)).setCell ⟨mb,4,none⟩ (B false));rw[←Ha];have RL:w5.heap[mb]?=some (.cells (NC la ln lc) 100 (0,0)):=(by have h:=heap_setCell_same _ mb 4 _ 100 (B false) (heap_setCell_same _ mb 3 _ 100 (I 0) H4.out.1);rw[Ha,h,nx.out];rfl);have Xp:eF wA.heap.size wA w5 (iK j f aV cap c):=(by rw[Ha];exact(H4.out.2.2.2.others H4.out.2.2.1 H4.out.2.1 3 _).others H4.out.2.2.1 H4.out.2.1 4 _);have c3:=Xp.cell (r:=.al) (b:=wb) (cp:=0) (j:=3) sJ.out.al rfl;have Yg:=Xp.frozen (r:=.al) (b:=wb) (cp:=0) sJ.out.al 3;have lwb:=(Xp.lt (r:=.al) (b:=wb) (cp:=0) sJ.out.al).2;have Yh:=ag (sJ.out.WL (by show j≤2;omega) Xp);have M0:wA.heap.size≤w5.heap.size:=Xp.uw.2;have H5:=ag Xp;clear Ha Xp y3 y4 yf3 yf4 H4
    have NA:Hid ((Value.slice va j vc).ownBlock≠some wb):=by
     refine ag ?_;rw[sJ.out.cU,gV];intro e;have:=cN.inj sJ.out.own .gs .al wb e (by simp only[sJ.out.al];rfl)
     cases this
    refine GL (aJ:=_) kX RL c3 Yg lwb Yh M0 hj NA _ _ _ _ _ _ _ _ _ _ _ _ _ _ _ _ _ _ _ _ _ _ _ _ _ _ _ _ _ _ _ _ _ _ _ _ _ _ _ _ _ _ _ _ _ _ _ _ _ _ _ _ _ _ _ _ _ _ _ _ _ _ _ _ _ _ _ _ _ _ _ _ _ _ _ _ _ _ _ _ _ _ _ _ _ _ _ _ _ _ _ _ _ _ _ _ _ _ _ _ _ _ _ _ _ _ _ _ _ _ _ _ _ _ _ _ (fun _ _ _ _ _ h=>h) ?_;intro u92 u93 u94 u95 u96 u97 u98 u99 ag2 PW w9 gg hU jl kz bE;have HN:Hid (∃f B K C,Ny wA.heap.size wA (w9.setCell ⟨wb,3,none⟩ (.slice (some ⟨gg,0,none⟩) (j+1) hU)) (Ef wb bB gB bL gL bS cS bD gD bQ gQ qQ bP gP qP) (fun v=>[I 2,I 1,I 0,v,.pointer (some ⟨bB,0,none⟩),.slice none 0 0,.slice none 0 0,.pointer (some ⟨bL,0,none⟩),.pointer (some ⟨bQ,0,none⟩),.slice (some ⟨bS,0,none⟩) 2 cS,.pointer (some ⟨bP,0,none⟩),.pointer (some ⟨bD,0,none⟩),.slice none 0 0,.slice none 0 0]) wb ev (j+1) (.slice (some ⟨gg,0,none⟩) (j+1) hU) f B K C):=(by refine Ny.push sJ HLL (H5.out.alloc (.cells (NC la ln lc) 100)) Bg.out.2.row Bg.out.2.cs (fun q hq=>Bg.out.2.own.none_ _ (Bg.out.2.less q hq)) kz ?_ (by simpa using bE) (fun _ _=>rfl);rw[←Bg.out.1];exact jl);clear jl kz bE Yh H5 c3 Yg sJ Bg M0 RL NA;go_wp2;go_roundw
    case rel=>exact⟨j+1,_,_,bl2,oX,HN⟩
    case measure=>simp[intOf];omega
   ·obtain rfl:j=2:=by omega
    obtain⟨f,fB,fK,fC,G⟩:=HG.out;have hbG:=G.own.uw;obtain⟨F,m,hFw,R⟩:=Xn G;have GV:Below w.heap.size w wr:=HW.out.2.2.trans (hbG.1.mono (by have:=HW.out.1;have:=HW.out.2.1;omega));have h0:Hid (∃m,bz wA.heap.size F wr m wO∧Below w.heap.size w wr):=⟨m,R,GV⟩;obtain⟨_,_,_,_,s4,_,_,_⟩:=Ao.out _ hbG.1;have TD:=ag hFw;clear G R hbG GV HG HGA hFw;go_wp2_with fail
    go_loopw [106] (fun i wr=>∃k:Nat,i=.int .i64 k∧k≤1∧Hid (∃m,bz wA.heap.size F wr m (if k=0 then wO else pV)∧Below w.heap.size w wr)) (fun i _=>1-(intOf i).toNat)
    case atStart=>exact⟨0,rfl,oX,h0⟩
    case round=>
     clear h0 s4;obtain⟨k,rfl,hk,HR⟩:=hrel;by_cases dD:k<1
     ·obtain rfl:k=0:=by omega
      obtain⟨m1,R1,gq⟩:=HR.out;have R1:bz wA.heap.size F wr m1 wO:=R1;have HQC:Hid (∀q v,(#[I 0,.slice none 0 0,B false,I (-1),.slice none 0 0,.slice none 0 0]:Array Value)[q]?=some v→wr.cell? ⟨cb,uq+q,none⟩=some v):=fun q v hv=>cw gq cG _ _ (HCX q v hv)
      obtain⟨w1,jk⟩:=dC (wr.alloc (.cells #[I 0,.slice none 0 0,B false,I (-1),.slice none 0 0,.slice none 0 0] 59));obtain⟨cx,Yq⟩:∃b,b=wr.heap.size:=⟨_,rfl⟩;have hbb:Below wr.heap.size wr w1:=bn1;have eE:w1.heap[cx]?=some (.cells #[I 0,.slice none 0 0,B false,I (-1),.slice none 0 0,.slice none 0 0] 59 (0,0)):=(by rw[jk,Yq];exact dP _ _);have R2:=R1.below hbb;have HAC:Hid (Calls prog 134 #[.pointer (some ⟨wb,0,none⟩),I 1,.agg #[I 0,.slice none 0 0,B false,I (-1),.slice none 0 0,.slice none 0 0]] w1 fun e w'=>e=.returned (.tuple #[])∧∃m,bz wA.heap.size F w' m pV∧Below w.heap.size w w'):=(by rw[←TD.out];refine(D7 R2 rfl rfl dX).mono ?_;rintro e w' ⟨he,m3,A⟩;refine⟨he,m3,A.bj,?_⟩;have CM:=gq.trans (hbb.mono gq.size);have hle:w.heap.size≤wA.heap.size:=HW.out.2.2.size;refine⟨A.mv.os.trans CM.os,A.mv.tape.trans CM.tape,A.mv.output.trans CM.output,jm CM.size A.mv.size,fun b hb=>?_⟩;rw[A.mv.keep b (by have:=CM.size;omega) (fun r e=>by have:=(R2.lies r b e).1;omega)];exact CM.block b hb);have jc:=ag eE;clear R1 R2 gq hbb eE HR;go_upto_region 15 with fail
      repeat(fail_if_success (refine wpList_load_mid rfl 59 (.tmp 109) rfl cb uq rfl #[I 0,.slice none 0 0,B false,I (-1),.slice none 0 0,.slice none 0 0] ?_ ?_ ?_ ?_));go_step
      refine wpList_load_mid rfl 59 (.tmp 109) rfl cb uq rfl #[I 0,.slice none 0 0,B false,I (-1),.slice none 0 0,.slice none 0 0] HQC Vj JP ?_;repeat(fail_if_success (refine df rfl 59 (.tmp 7) (.tmp 110) rfl wr.heap.size rfl _ #[I 0,.slice none 0 0,B false,I (-1),.slice none 0 0,.slice none 0 0] rfl rfl ?_ ?_ ?_ ?_));go_step
      refine df rfl 59 (.tmp 7) (.tmp 110) rfl wr.heap.size rfl _ #[I 0,.slice none 0 0,B false,I (-1),.slice none 0 0,.slice none 0 0] rfl rfl JP rfl bi9 ?_;go_upto_region 16 with fail
      rw[←jk,←Yq];clear jk Yq HQC;repeat(fail_if_success (refine wpList_load_mid rfl 59 (.tmp 7) rfl cx 0 rfl #[I 0,.slice none 0 0,B false,I (-1),.slice none 0 0,.slice none 0 0] ?_ ?_ ?_ ?_));go_step
      refine wpList_load_mid rfl 59 (.tmp 7) rfl cx 0 rfl #[I 0,.slice none 0 0,B false,I (-1),.slice none 0 0,.slice none 0 0] (fun q v hq=>by rw[Nat.zero_add,cr _ _ _ _ _ _ jc.out];exact hq) Vj JP ?_;go_wp2_with (go_at_call 134;refine HAC.out.mono ?_;rintro e w2 ⟨rfl,hR⟩;have Ou:=ag hR;clear hR);go_roundw
      case rel=>exact⟨_,_,_,_,_,_,_,_,_,_,_,_,_,⟨1,rfl,oX,Ou⟩,rfl⟩
      case measure=>simp[intOf]
     ·obtain rfl:k=1:=by omega
      go_wp2;go_ret;obtain⟨m,R,hb⟩:=HR.out;have hB:=HW.out;have hs:wA.heap.size=w.heap.size+1:=(by rw[hB.2.1,hB.1]);exact⟨F,m,by rw[TD.out];rfl,by rw[←hs];exact R,hb⟩
theorem JQ:Calls prog 41 #[.agg #[I 2,I 1,I 0,.slice ga 2 gc,.slice ha 1 hc,.slice sa 2 sc,.slice ca 2 cc,.slice ma 0 mc,I 0,.slice da 0 dc,I 0,.slice xa 0 xc]] w fun e w'=>∃F m eb,e=.returned (.pointer (some ⟨eb,0,none⟩))∧bz (w.heap.size+2) F w' m pV∧Below w.heap.size w w'∧w'.heap[eb]?=some (.cells #[.pointer (some ⟨F.al,0,none⟩)] 78 (0,0))∧w.heap.size≤eb∧∀r,m.aV r≠some eb:=by
 obtain⟨w1,jk⟩:=dC (w.alloc (.cells #[I 2,I 1,I 0,.slice ga 2 gc,.slice ha 1 hc,.slice sa 2 sc,.slice ca 2 cc,.slice ma 0 mc,I 0,.slice da 0 dc,I 0,.slice xa 0 xc] 41));have hB:Below w.heap.size w w1:=bn1
 have rh:w1.heap.size=w.heap.size+1:=by rw[jk];simp
 have eE:w1.heap[w.heap.size]?=some (.cells #[I 2,I 1,I 0,.slice ga 2 gc,.slice ha 1 hc,.slice sa 2 sc,.slice ca 2 cc,.slice ma 0 mc,I 0,.slice da 0 dc,I 0,.slice xa 0 xc] 41 (0,0)):=by rw[jk];exact dP _ _
 have HC:=ag (Un ga ha sa ca ma da xa gc hc sc cc mc dc xc w1 (H.below hB));rw[rh]at HC;have HX:=ag (dO eE (dO hB rh));clear H hB rh eE;go_enter func41,ntmps41;go_upto_region 1 with fail
 rw[←jk];clear jk;refine wp_region_lit ?_;refine wpList_load_mid rfl 41 (.tmp 1) rfl w.heap.size 0 rfl #[I 2,I 1,I 0,.slice ga 2 gc,.slice ha 1 hc,.slice sa 2 sc,.slice ca 2 cc,.slice ma 0 mc,I 0,.slice da 0 dc,I 0,.slice xa 0 xc] (fun q v hq=>bu9) uV jB ?_;go_wp2_with (go_at_call 74;refine HC.out.mono ?_;rintro e w2 ⟨F,m,rfl,R,hb⟩;have HR:=ag (dO R hb);clear R hb);go_ret;obtain⟨R,hb⟩:=HR.out;have hB:=HX.out.2.1;have hs:=HX.out.2.2;have mz:Below w.heap.size w w2:=hB.trans (hb.mono oX);refine⟨F,m,w2.heap.size,rfl,R.below ((fp _ _).alloc cG _),mz.alloc mz.size _,dP _ _,mz.size,fun r e=>?_⟩;have:=R.lt e;omega
end
namespace V
theorem aP4(f:Int→Int):∀(l:List Int) (who:Int),f who≤f (qV f who l)∧∀g∈l,f g≤f (qV f who l)
 | [],who=>⟨Int.le_refl _,fun g h=>bk0⟩
 |a::l,who=>by
  obtain⟨h1,h2⟩:=aP4 f l (if f who<f a then a else who);have e:qV f who (a::l)=qV f (if f who<f a then a else who) l:=rfl;rw[e];have h3:f who≤f (if f who<f a then a else who)∧f a≤f (if f who<f a then a else who):=by split<;>omega
  refine⟨oX,fun g hg=>?_⟩;rcases iL.1 hg with rfl|hg
  ·omega
  ·exact h2 g hg
theorem aM2{p q:Int→Bool}{a:Int}:∀{l:List Int},(∀x∈l,p x=true→q x=true)→a∈l→p a=false→q a=true→l.countP p+1≤l.countP q
 | [],_,h,_,_=>bk0
 |x::l,hs,h,hp,hq=>by
  have hm:l.countP p≤l.countP q:=List.countP_mono_left fun y hy=>hs y (nO _ hy)
  rw[List.countP_cons,List.countP_cons];rcases iL.1 h with rfl|h
  ·rw[hp,hq];simp;omega
  ·have:=aM2 (fun y hy=>hs y (nO _ hy)) h hp hq;have:=hs x (rn ..)
   cases h1:p x with
   |false=>simp;split<;>omega
   |true=>rw[this h1];simp;omega
theorem aM3{p:Int→Bool}{a:Int}:∀{l:List Int},a∈l→p a=false→l.countP p+1≤l.length
 | [],h,_=>bk0
 |x::l,h,hp=>by
  rw[List.countP_cons,sV];rcases iL.1 h with rfl|h
  ·have:=List.countP_le_length (p:=p) (l:=l);rw[hp];simp;omega
  ·have:=aM3 h hp;split<;>omega
def FQ(p:List (List cu))(draws:List Int)(K d k0 most:Nat)(j:Nat)(S:Wd)(f:Int→Int):Prop:=
 ∃t k:Nat,xK p draws k S∧k≤k0+j∧j≤most∧(∀g,0≤f g∧f g≤j)∧j+K*work S≤K*wkP p+t∧
  (∀g∈cE S.ax,(t:Int)≤f g∨∃(i:Nat) (x:bI),g=i∧S.gs[i]?=some x∧Blk S x)∧t≤d+(cE S.ax).countP fun g=>decide (f g<t)
section
variable{S S':Wd}{g k j K d k0 most N:Nat}{p:List (List cu)}{draws:List Int}{f:Int→Int}
theorem aL0(h:Na S g):(g:Int)∈cE S.ax:=by
 have key:∀(b:List (Int×Bool)) (i j:Nat) (t:Bool),b[j]?=some (0,t)→((i+j:Nat):Int)∈eY i b:=by
  intro b;induction b with
  |nil=>intro i j t h;simp at h
  |cons a b ih=>
   intro i j t h;obtain⟨st,u⟩:=a
   cases j with
   |zero=>
    simp only[List.getElem?_cons_zero,oZ,Prod.mk.injEq]at h;unfold eY;rw[aF h.1];exact rn ..
   |succ j=>
    have:=ih (i+1) j t bj3;rw[show i+1+j=i+(j+1)by omega]at this;unfold eY;split
    ·exact nO _ this
    ·exact this
 obtain⟨t,h⟩:=h;have:=key S.ax 0 g t h;simpa[cE]using this
theorem FQ.few(hN:p.length=N)(hK:K=N+d){t:Nat}(R:xK p draws k S)(hr:cE S.ax≠[])(h1:∀g∈cE S.ax,(t:Int)≤f g∨∃(i:Nat) (x:bI),g=i∧S.gs[i]?=some x∧Blk S x)(h2:t≤d+(cE S.ax).countP fun g=>decide (f g<t)):t<K∧∃g∈cE S.ax,(t:Int)≤f g:=by
 obtain⟨g0,hg0⟩:=List.exists_mem_of_ne_nil _ hr;obtain⟨i,rfl,jf⟩:=sG hg0;obtain⟨ls,I⟩:=R.1.inv
 have dD:i<S.ax.length:=by
  rcases Nat.lt_or_ge i S.ax.length with h|h
  ·exact h
  ·unfold bU idx at jf;rw[aF oX]at jf;simp only[oU]at jf;rw[rq h]at jf;simp at jf
 obtain⟨g',x',a1,a2,a3⟩:=aR9 I (SF jf dD);have hm:=aL0 a1
 have ht:(t:Int)≤f g':=by
  rcases h1 _ hm with h|⟨i2,x2,e,b1,b2⟩
  ·exact h
  ·obtain rfl:g'=i2:=by omega
   rw[a2]at b1;cases b1;exact aX b2 a3
 refine⟨?_,_,hm,ht⟩;have hc:=aM3 (p:=fun g=>decide (f g<t)) hm bi8;have hl:=xg S.ax 0;have hb:=I.ax;have eM:S.gs.length=N:=by rw[←hN,←R.1.ops,ko]
 unfold cE at*;omega
theorem FQ.start(R:xK p draws k0 S):FQ p draws K d k0 most 0 S (fun _=>0):=
 ⟨0,k0,R,oX,Nat.zero_le _,fun g=>⟨Int.le_refl _,Int.le_refl _⟩,by have:=R.2.2.2;have:=Nat.mul_le_mul_left K this;omega,fun g _=> .inl (Int.le_refl _),Nat.zero_le _⟩
theorem FQ.stop(hN:p.length=N)(hK:K=N+d)(hm:most=K*(wkP p+1))(Q:FQ p draws K d k0 most most S f):cE S.ax=[]:=by
 refine Classical.byContradiction fun hr=>?_
 obtain⟨t,k,R,_,_,_,h1,h2,h3⟩:=Q;have h4:=(FQ.few hN hK R hr h2 h3).1;rw[Nat.mul_add,Nat.mul_one]at hm;have:=Nat.zero_le (K*work S);omega
theorem aP5(hN:p.length=N)(hK:K=N+d)(OH:k0+most<900000)(hd:draws.length≤300)(hr:∀z∈draws,0≤z∧z≤65535):Re (FQ p draws K d k0 most) K N most:=by
 have G:=Vh p draws oX hr;refine⟨fun j S f ⟨t,k,R,_⟩=>?_,fun j S f ⟨t,k,R,_⟩=>G.av k S R,fun j S f g Q h=>sG h,fun j S f g ⟨t,k,R,hk,_⟩ hj h0=>G.aG k S g R oX h0,fun j S f ⟨t,k,R,_⟩=>?_,fun j S f ⟨t,k,R,_,hj,hf,_⟩ g=>?_,?_⟩
 ·obtain⟨ls,I⟩:=R.1.inv;have:=I.ax;have:=I.n8;omega
 ·rw[←hN,←R.1.ops,ko]
 ·have:=hf g;omega
 ·rintro j S f ⟨t,k,R,hk,hj,hf,h1,h2,h3⟩ hjm tS g hg
  have fD:(g:Int)∈cE S.ax∧(¬((K:Int)≤f (qV f ((cE S.ax).getD 0 0) (cE S.ax))+N)∨(g:Int)=qV f ((cE S.ax).getD 0 0) (cE S.ax)):=by
   unfold qZ at hg;split at hg
   ·refine⟨?_,.inr hg.symm⟩;rw[←hg];rcases sw f (cE S.ax) ((cE S.ax).getD 0 0)with h|h
    ·rw[h,yk,fv (pd tS)];exact List.getElem_mem _
    ·exact h
   ·rename_i h;exact⟨hg▸vt tS 0,.inl h⟩
  obtain⟨i,e,jf⟩:=sG fD.1;obtain rfl:g=i:=oX
  obtain⟨S',hd',R',hw⟩:=R.mn oX oX jf;obtain⟨aV7,g0,hg0,aV8⟩:=FQ.few hN hK R tS h2 h3;have aU6:∀a,0≤iC (g:Int) (cE S.ax) f a∧iC (g:Int) (cE S.ax) f a≤((j+1:Nat):Int):=fun a=>by have:=hf a;unfold iC;split<;>omega
  refine⟨S',hd',?_⟩;rcases hw with⟨rfl,x,hx,hB⟩|hw
  ·refine⟨t+1,k+1,R',oX,oX,aU6,by show j+1+K*work S≤_;omega,fun a ha=>?_,?_⟩
   ·by_cases e:a=(g:Int)
    ·exact .inr ⟨g,x,e,hx,hB⟩
    ·rcases h2 a ha with h|h
     ·left;unfold iC;rw[aF ⟨ha,e⟩];omega
     ·exact .inr h
   ·show t+1≤d+(cE S.ax).countP _;by_cases htd:t<d
    ·omega
    ·have aV3:=(aP4 f (cE S.ax) ((cE S.ax).getD 0 0)).2 g0 hg0
     have hgo:(g:Int)=qV f ((cE S.ax).getD 0 0) (cE S.ax):=by
      rcases fD.2 with h|h
      ·exact aX oX h
      ·exact h
     have:=aM2 (p:=fun g=>decide (f g<t)) (q:=fun a=>decide (iC (g:Int) (cE S.ax) f a<((t+1:Nat):Int))) (l:=cE S.ax) (a:=(g:Int)) (fun a ha h=>by simp only[decide_eq_true_eq]at h ⊢;unfold iC;split<;>omega) fD.1 (by rw[←hgo]at aV3;simp;omega) (by unfold iC;rw[aE (fun h=>h.2 rfl)];exact decide_eq_true oX);omega
  ·have hm:=Nat.mul_le_mul_left K hw;rw[Nat.mul_add,Nat.mul_one]at hm;exact⟨0,k+1,R',oX,oX,aU6,oX,fun a _=> .inl (aU6 a).1,Nat.zero_le _⟩
theorem xK.aU7(R:xK p draws k S)(hq:cE S.ax=[]):(∀c:Nat,S.aO[c]?=some true→S.aw.len (2*c:Nat)≤0∧S.aw.len (2*c+1:Nat)≤0)∧∀m∈S.done,aT3 S m:=by
 obtain⟨ls,I⟩:=R.1.inv;have J:=R.2.2.1;refine⟨fun c hc=>?_,J.mks⟩;have gm:clo S ((c:Int)+1):=by unfold clo idx;rw[aF oX,show((c:Int)+1-1).toNat=c by omega];exact hc
 rcases J.dr _ gm with h|⟨g,x,hx,hd,_⟩
 ·rw[show(2*((c:Int)+1)-2)=((2*c:Nat):Int)by omega,show(2*((c:Int)+1)-1)=((2*c+1:Nat):Int)by omega]at h;exact h
 ·exfalso;have hg:=cA hx;obtain⟨⟨s,t⟩,hb⟩:∃q,S.ax[g]?=some q:=⟨_,fv (by rw[I.ax];exact hg)⟩;obtain⟨a1,a2,a3,a4,a5,a6,a7⟩:=I.st g x s t hx hb
  obtain rfl:s=0:=by
   by_cases e:s=1
   ·have:=a4 e;omega
   ·by_cases e2:s=2
    ·have:=(a7 e2).1;omega
    ·omega
  have:=aL0 ⟨t,hb⟩;rw[hq]at this;cases this
end
end V
end Go.Proofs.YtadifmnmfnihdaaGreat
