import Derived.Test.YtadifmnmfnihdaaGreatA26
set_option linter.all false
set_option maxRecDepth 100000
set_option maxHeartbeats 40000000
namespace Go.Proofs.YtadifmnmfnihdaaGreat
open Go.RowKit Mach Go.Proofs.Tryz
theorem GM(p:List (List cu))(n:Nat)(hn:n=p.length)(a:Option Addr)(ca:Nat)(N most:Nat)(draws:List Int)(nd:Nat)(fX:nd=draws.length)(da:Option Addr)(cd:Nat)(w:World)(h1:aH1 w a p)(hsm:CQ p)(h8:0<n∧n≤8)(hN:N≤64)(gI:nK N n most=true)(hd:Rd .u16 w da draws)(M5:nd≤300)(hr:∀z∈draws,0≤z∧z≤65535)(Q3:∀W:World,Below w.heap.size w W→Calls prog 77 #[.slice a n ca] W fun e w'=>e=.returned (.bool true)∧Below W.heap.size W w'):Calls prog 43 #[.slice a n ca,.agg #[I N,I most],.slice da nd cd] w fun e w'=>∃F m,e=.returned (.tuple #[.pointer (some ⟨F.al,0,none⟩),I 0])∧bz w.heap.size F w' m (V.gj p N most draws)∧Below w.heap.size w w':=by
 obtain⟨i0,hi,fV,gF,gG⟩:=info_parts xU;obtain⟨i1,ki,JV,JW,JX⟩:=info_parts xO;have sN:∀W:World,(Instr.makeSlice 37 (I N) (I N)).run prog W=.ok (.slice (some ⟨W.heap.size,0,none⟩) N N) (W.alloc (.cells (madeCells (Value.agg #[B false,I 0,I 0,I 0,B false,I 0,B false]).cells (N*i0.size)) 105)):=fun W=>av9 (P:=prog) 37 105 i0 _ underlying37 hi fV .i64 .i64 N N cG bk6 oX W
 rw[gF]at sN;clear fV hi gF gG;obtain⟨Hn,Xe,H1,HS,Ah,HD⟩:=mr hn fX h1 hsm gI hd;obtain⟨HR,HRI⟩:=dA hr Q3;have X0:Hid (eh w.heap.size w (w.alloc (.cells #[I N,I most] 24)) [(.aH 0,some w.heap.size,0,[I N,I most])]):=by have X:eh w.heap.size w w []:=⟨fp _ _,Nat.le_refl _,sX,fun e h=>bj5,fun e h=>bj5⟩;exact X.Og ((fp _ _).alloc cG _) _ _ _ _ cG (fF (dP _ _) rfl (fun p h=>bp2))
 clear hn fX h1 hsm gI hd hr Q3;go_enter func43,ntmps43;have HP:=ag (fun(w1:World) (L:List (bH×oJ)) (H:eh w.heap.size w w1 L)=>E1 N n most h8.2 hN Ah H);have HQ:=ag (fun(w1:World) (L:List (bH×oJ)) (H:eh w.heap.size w w1 L)=>BN N hN H)
 go_upto_region 9 with(first
  |(go_at_call 77;refine(HRI _ X0.out.below).mono ?_;rintro e w1 ⟨rfl,hb⟩;have X1:=ag (X0.out.eC hb);have c0:=X1.out.cell (j:=0) (List.mem_singleton.2 rfl) rfl;have c1:=X1.out.cell (j:=1) (List.mem_singleton.2 rfl) rfl;clear hb)
  |(go_at_call 78;refine(HP _ _ X1).mono ?_;rintro e w2 ⟨bP,gP,qP,rfl,x2⟩;have X2:=ag x2;have d0:=x2.cell (r:=.aH 0) (b:=w.heap.size) (cap:=0) (cs:=[I N,I most]) (j:=0) sX rfl;have d1:=x2.cell (r:=.aH 0) (b:=w.heap.size) (cap:=0) (cs:=[I N,I most]) (j:=1) sX rfl;clear x2 c0 c1)
  |(go_at_call 79;refine(HQ _ _ X2).mono ?_;rintro e w3 ⟨bQ,gQ,qQ,rfl,x3⟩;have X3:=ag x3;have e0:=x3.cell (r:=.aH 0) (b:=w.heap.size) (cap:=0) (cs:=[I N,I most]) (j:=0) sX rfl;have e1:=x3.cell (r:=.aH 0) (b:=w.heap.size) (cap:=0) (cs:=[I N,I most]) (j:=1) sX rfl;clear x3 d0 d1))
 have HB:=ag (fun(w1:World) (L:List (bH×oJ)) (H:eh w.heap.size w w1 L)=>BM n h8.1 oX H);have HL:=ag (fun(w1:World) (L:List (bH×oJ)) (H:eh w.heap.size w w1 L)=>LF H);have RJ:=ag (fun(w1:World) (L:List (bH×oJ)) (H:eh w.heap.size w w1 L)=>E0 draws nd Xe da cd H (HD.out.below H.below cG) M5)
 have KV:=ag (fun(w1:World) (L:List (bH×oJ)) (H:eh w.heap.size w w1 L)=>show eh w.heap.size w (w1.alloc (.cells (madeCells #[B false,I 0,I 0,I 0,B false,I 0,B false] (N*7)) 105)) ((.ah,some w1.heap.size,N,bT mg 0 (List.replicate N {}))::L) from
  H.Og ((fp _ _).alloc cG _) _ _ _ _ cG (fF (dP _ _) (gz (f:=mg) (a:=({}:gn)) (z:=#[B false,I 0,I 0,I 0,B false,I 0,B false]) (fun _=>rfl) dX N) (fun p h=>bp2)))
 have HDC:Hid (∀(w1:World),Below w.heap.size w w1→0<nd→∃b off,da=some ⟨b,off,none⟩∧∀j u,(draws.map U)[j]?=some u→w1.cell? ⟨b,off+j,none⟩=some u):=fun w1 hb h0=>by obtain⟨b,off,e,hc⟩:=(HD.out.below hb cG).2 (by rw[←Xe.out];exact h0);refine⟨b,off,e,fun j u hu=>?_⟩;rw[na]at hu;obtain⟨z,hz,rfl⟩:=aH5.1 hu;have hj:=fm hz;rw[hc j hj,yk,hz];rfl
 have LD:=ag (fun(ops:Array Oper) (o:Oper) (ac:Act) (K:Act→World→Prop) (Q:Exit→Act→World→Prop) (E:Prop) (w1:World) (L:List (bH×oJ)) (H:eh w.heap.size w w1 L)=>uT (P:=prog) (ops:=ops) (o:=o) (a:=ac) (w:=w1) (K:=K) (Q:=Q) (E:=E) (s:=.const (.slice none 0 0)) (x:=.tmp 51) (t:=25) (ht:=underlying25) (hi:=ki) (hz:=JV) (hsize:=JW) (hby:=JX) (hzs:=rfl) (hsz:=Nat.one_pos) (hbb:=dX)
  (ao:=da) (n:=nd) (c:=cd) (cs:=draws.map U) (hl:=by rw[ko,Xe.out,Nat.mul_one]) (hc:=HDC.out w1 H.below) (h1:=ints_oneCell _ _) (hn:=oX) (H:=H) (r:=.draws) (hr:=br1))
 have wH:=ag (fun(w1:World) (L:List (bH×oJ)) (cs:Array Value) (q:Nat) (H:eh w.heap.size w w1 L) (hq:w1.heap.size=q)=>show eh w.heap.size w (w1.alloc (.cells cs 94)) ((.al,some q,0,cs.toList)::L)from by subst hq;exact H.Og ((fp _ _).alloc cG _) _ _ _ _ cG (fF (dP _ _) rfl (fun p h=>bp2)));have X:=ag X3.out.drew;go_cut [11]from 39 to 54 (fun x wx=>∃wb bB gB bL gL bS bD gD dd dc,x=.pointer (some ⟨wb,0,none⟩)∧(dd=none→nd=0∧dc=0)∧Hid (∃L,eh w.heap.size w wx L∧∀k,sH N n nd most draws wb bB gB bL gL bS bD gD dd dc bP gP qP bQ gQ qQ k=none∨L.lookup k=sH N n nd most draws wb bB gB bL gL bS bD gD dd dc bP gP qP bQ gQ qQ k))
 case first=>
  go_region_held3 (fun W=>W.cell? ⟨w.heap.size,0,none⟩=some (I N)∧W.cell? ⟨w.heap.size,1,none⟩=some (I most)) (first|exact⟨e0,e1⟩|go_keep)
   (first
    |((first|refine LD _ _ _ _ _ _ _ _ X.out rfl rfl bj0 bj0 ?_|refine LD _ _ _ _ _ _ _ _ (KV _ _ X.out) rfl rfl bj0 bj0 ?_|refine LD _ _ _ _ _ _ _ _ (KV _ _ X3).drew rfl rfl bj0 bj0 ?_);intro hb lK wC hgC x Et;have X:=ag x;have e0:=x.cell (r:=.aH 0) (b:=w.heap.size) (cap:=0) (cs:=[I N,I most]) (j:=0) sX rfl;have e1:=x.cell (r:=.aH 0) (b:=w.heap.size) (cap:=0) (cs:=[I N,I most]) (j:=1) sX rfl;clear x hgC)
    |(go_at_call 80;(first|with_reducible refine(HB.out _ _ X.out).mono ?_|with_reducible refine(HB.out _ _ (KV.out _ _ X.out)).mono ?_|with_reducible refine(HB.out _ _ (KV.out _ _ X3.out).drew).mono ?_);rintro e wB ⟨bB,gB,rfl,x⟩;have X:=ag x;have e0:=x.cell (r:=.aH 0) (b:=w.heap.size) (cap:=0) (cs:=[I N,I most]) (j:=0) sX rfl;have e1:=x.cell (r:=.aH 0) (b:=w.heap.size) (cap:=0) (cs:=[I N,I most]) (j:=1) sX rfl;clear x)
    |(go_at_call 81;(first|with_reducible refine(HL.out _ _ X.out).mono ?_|with_reducible refine(HL.out _ _ (KV.out _ _ X.out)).mono ?_|with_reducible refine(HL.out _ _ (KV.out _ _ X3.out).drew).mono ?_);rintro e wL ⟨bL,gL,rfl,x⟩;have X:=ag x;have e0:=x.cell (r:=.aH 0) (b:=w.heap.size) (cap:=0) (cs:=[I N,I most]) (j:=0) sX rfl;have e1:=x.cell (r:=.aH 0) (b:=w.heap.size) (cap:=0) (cs:=[I N,I most]) (j:=1) sX rfl;clear x)
    |(go_at_call 82;(first|with_reducible refine(RJ.out _ _ X.out).mono ?_|with_reducible refine(RJ.out _ _ (KV.out _ _ X.out)).mono ?_|with_reducible refine(RJ.out _ _ (KV.out _ _ X3.out).drew).mono ?_);rintro e wD ⟨bD,gD,rfl,x⟩;have X:=ag x;have e0:=x.cell (r:=.aH 0) (b:=w.heap.size) (cap:=0) (cs:=[I N,I most]) (j:=0) sX rfl;have e1:=x.cell (r:=.aH 0) (b:=w.heap.size) (cap:=0) (cs:=[I N,I most]) (j:=1) sX rfl;clear x))
  all_goals go_wp2_with fail
  all_goals go_meet
  all_goals clear HB HL RJ LD HDC HP HQ X0 X1 X2 H1 HS HRI HD HR ki JV JW JX sN
  all_goals first
   |(refine⟨_,bB,gB,bL,gL,w3.heap.size,bD,gD,hb,lK,rfl,Et,_,wH _ _ _ _ X.out rfl,?_⟩;intro k;cases k<;>first|exact .inl rfl|exact .inr rfl)
   |(refine⟨_,bB,gB,bL,gL,w3.heap.size,bD,gD,hb,lK,rfl,Et,_,wH _ _ _ (w3.heap.size+1) (KV _ _ X.out) sX,?_⟩;intro k;cases k<;>first|exact .inl rfl|exact .inr rfl)
   |(refine⟨_,bB,gB,bL,gL,wB.heap.size,bD,gD,hb,lK,rfl,Et,_,wH _ _ _ _ X.out rfl,?_⟩;intro k;cases k<;>first|exact .inl rfl|exact .inr rfl)
   |(refine⟨_,bB,gB,bL,gL,wB.heap.size,bD,gD,hb,lK,rfl,Et,_,wH _ _ _ (wB.heap.size+1) (KV _ _ X.out) sX,?_⟩;intro k;cases k<;>first|exact .inl rfl|exact .inr rfl)
   |(refine⟨_,bB,gB,bL,gL,wL.heap.size,bD,gD,hb,lK,rfl,Et,_,wH _ _ _ _ X.out rfl,?_⟩;intro k;cases k<;>first|exact .inl rfl|exact .inr rfl)
   |(refine⟨_,bB,gB,bL,gL,wL.heap.size,bD,gD,hb,lK,rfl,Et,_,wH _ _ _ (wL.heap.size+1) (KV _ _ X.out) sX,?_⟩;intro k;cases k<;>first|exact .inl rfl|exact .inr rfl)
   |(refine⟨_,bB,gB,bL,gL,wD.heap.size,bD,gD,hb,lK,rfl,Et,_,wH _ _ _ _ X.out rfl,?_⟩;intro k;cases k<;>first|exact .inl rfl|exact .inr rfl)
   |(refine⟨_,bB,gB,bL,gL,wD.heap.size,bD,gD,hb,lK,rfl,Et,_,wH _ _ _ (wD.heap.size+1) (KV _ _ X.out) sX,?_⟩;intro k;cases k<;>first|exact .inl rfl|exact .inr rfl)
   |(refine⟨_,bB,gB,bL,gL,wC.heap.size,bD,gD,hb,lK,rfl,Et,_,wH _ _ _ _ X.out rfl,?_⟩;intro k;cases k<;>first|exact .inl rfl|exact .inr rfl)
   |(refine⟨_,bB,gB,bL,gL,wC.heap.size,bD,gD,hb,lK,rfl,Et,_,wH _ _ _ (wC.heap.size+1) (KV _ _ X.out) sX,?_⟩;intro k;cases k<;>first|exact .inl rfl|exact .inr rfl)
 case rest=>
  obtain⟨wb,bB,gB,bL,gL,bS,bD,gD,dd,dc,rfl,Et,HF⟩:=hcut;clear X HB HL RJ LD HDC HP HQ X0 X1 X2 X3 HRI HD HR ki JV JW JX sN wH KV e0 e1;obtain⟨L,hL,hf⟩:=HF.out;have O:=ag (hL.own hf);have HDD:=ag Et;obtain⟨iG,gi,RO,RP,RQ⟩:=info_parts uS;clear HF hL hf Et;have tP:=ag (tQ p n Hn.out a ca wc (H1.out.below O.out.below cG) HS);go_wp2_with (go_at_call 83;refine tP.out.mono ?_;rintro e w4 ⟨og,oc,GI,GJ,cC,rfl,hC,oF,xz⟩;have HC:=ag hC;have hOG:=ag (dO oF xz);clear hC oF xz);obtain⟨Hz,Q4⟩:∃X,X=Sum.elim (fun k=>(sH N n nd most draws wb bB gB bL gL bS bD gD dd dc bP gP qP bQ gQ qQ k).bind (·.1)) GI:=⟨_,rfl⟩;obtain⟨TY,hTY⟩:∃X,X=Sum.elim eI Nl:=⟨_,rfl⟩;obtain⟨Nn,Xf⟩:∃X,X=Sum.elim (fun k=>((sH N n nd most draws wb bB gB bL gL bS bD gD dd dc bP gP qP bQ gQ qQ k).map (·.2.1)).getD 0) GJ:=⟨_,rfl⟩;obtain⟨C,hCC⟩:∃X,X=Sum.elim (fun k=>((sH N n nd most draws wb bB gB bL gL bS bD gD dd dc bP gP qP bQ gQ qQ k).map (·.2.2)).getD []) cC:=⟨_,rfl⟩;obtain⟨GN,Q5⟩:∃X:Nat→List cu→Value,X=fun i l=>nG (GI (some (.ops i))) l.length (GJ (some (.ops i))):=⟨_,rfl⟩
  have HX:Hid (∃aV cap c,rV w.heap.size w w4 p (Sum.inl .gs) (Sum.inl .al) GN wb Hz TY Nn C 0 none 0 aV cap c):=by rw[Q4,hTY,Xf,hCC,Q5];refine⟨_,_,_,⟨O.out.join HC.out.own,fun k h=>⟨rfl,rfl⟩,fun k h1 h2=>rfl,rfl,rfl,rfl,rfl⟩⟩
  have TD:Hid (Hz (Sum.inl .al)=some wb):=by rw[Q4];rfl
  have UC:Hid (TY (Sum.inl .gs)=some (100,25)):=by rw[hTY];rfl
  have UP:Hid (∀v,((C (Sum.inl .al)).set 3 v)[3]?=some v):=by rw[hCC];intro v;rfl
  have HFO:Hid (Hz (Sum.inr none)=some og∧C (Sum.inr none)=(List.range n).map fun i=>GN i (p.getD i [])):=by rw[Q4,hCC,Q5];exact⟨hOG.out.1,HC.out.out⟩
  have HFH:Hid (∀i l,∃la ln lc,GN i l=.slice la ln lc):=by
   rw[Q5];intro i l;show ∃la ln lc,nG (GI (some (.ops i))) l.length (GJ (some (.ops i)))=.slice la ln lc;unfold nG;split
   ·exact⟨_,_,_,rfl⟩
   ·exact⟨_,_,_,rfl⟩
  have HEQ:=ag (dO Q4 (dO hTY (dO Xf (dO hCC Q5))));clear Q4 hTY Xf hCC Q5 O tP hOG H1 HS Ah;go_loopw [58] (fun i wr=>∃(j:Nat) (ga:Option Addr) (gc:Nat),i=.int .i64 j∧j≤n∧Hid (∃aV cap c,rV w.heap.size w wr p (Sum.inl .gs) (Sum.inl .al) GN wb Hz TY Nn C j ga gc aV cap c)) (fun i _=>n-(intOf i).toNat)
  case atStart=>exact⟨0,none,0,rfl,oX,HX⟩
  case round=>
   clear HX;obtain⟨j,ga,gc,rfl,hj,HX⟩:=hrel;by_cases dD:j<n
   ·obtain⟨aV,cap,c,X⟩:=HX.out;obtain⟨l,hl⟩:∃l,p[j]?=some l:=⟨_,fv bk8⟩;obtain⟨la,ln,lc,hH⟩:=HFH.out j l;have dj:wr.cell? ⟨og,j,none⟩=some (.slice la ln lc):=(by refine X.own.cell (k:=Sum.inr none) (by rw[(X.N7 _ sX).1];exact HFO.out.1) ?_;rw[X.Sn _ sX sX,HFO.out.2,na,List.getElem?_range dD,←hH];simp only[km];rw[yk,hl];rfl);have c3:wr.cell? ⟨wb,3,none⟩=some (.slice ga j gc):=X.own.cell (k:=Sum.inl .al) X.wk_ (by rw[X.wc];exact UP _);have hown:wr.ownsRow w.heap.size 100 25 (.slice ga j gc) j (c (Sum.inl .gs)):=(by rw[X.cU];exact X.own.owns (k:=Sum.inl .gs) (p:=(100,25)) UC dX (by rw[X.row,aV9 (k:=25) (fun _ _=>rfl),tC,←Hn.out,Nat.min_eq_left hj]));have qq:=X.own.tL;have nv:=ag hown;have Z3:Hid (∃aV cap c',rV w.heap.size w wr p (Sum.inl .gs) (Sum.inl .al) GN wb Hz TY Nn C j ga gc aV cap c'∧c (Sum.inl .gs)=c' (Sum.inl .gs)):=⟨aV,cap,c,X,rfl⟩;obtain⟨HL,HH⟩:=dA hl hH;clear X hown HX hl hH;go_wp2_with (at_builtin;go_loud (refine gY (us:=#[Value.slice la ln lc,I 0,I 0,I 0,B false,I 0,B false,I 0,I 0,I 0,I 0,I 0,I 0,I 0,I 0,I 0,I 0,I 0,B false,I 0,.slice none 0 0,.slice none 0 0,.slice none 0 0,.slice none 0 0,I 0]) (w2:=wr) rfl (.tmp 67) (.tmp 70) 35 rfl underlying35 gi RO RP RQ rfl dX dX rfl rfl bi9 (.slice ga j gc) j _ rfl nv wr.heap.size rfl rfl oX qq ?_));intro g cp w5 tn hgr gp
    have HP:Hid (∃aV cap c',(∀k,k≠(Sum.inl .gs:bH ⊕ CK)→aV k=Hz k∧cap k=Nn k)∧cN w.heap.size w (w5.setCell ⟨wb,3,none⟩ (.slice (some ⟨g,0,none⟩) (j+1) cp)) (up aV (Sum.inl .gs) (some g)) TY (up cap (Sum.inl .gs) cp) c'∧(∀k,k≠(Sum.inl .gs:bH ⊕ CK)→k≠Sum.inl .al→c' k=C k)∧c' (Sum.inl .al)=(C (Sum.inl .al)).set 3 (.slice (some ⟨g,0,none⟩) (j+1) cp)∧c' (Sum.inl .gs)=bT (fun i l=>aW0 (GN i l)) 0 (p.take j)++AG (GN j l))∧
      w5.cell? ⟨wb,3,none⟩=some (.slice ga j gc)∧w5.frozen? ⟨wb,3,none⟩=false:=by
     obtain⟨aV,cap,c',X,mP⟩:=Z3.out;have X2:rV w.heap.size w (wr.alloc (.cells #[Value.slice la ln lc,I 0,I 0,I 0,B false,I 0,B false,I 0,I 0,I 0,I 0,I 0,I 0,I 0,I 0,I 0,I 0,I 0,B false,I 0,.slice none 0 0,.slice none 0 0,.slice none 0 0,.slice none 0 0,I 0] 100)) p (Sum.inl .gs) (Sum.inl .al) GN wb Hz TY Nn C j ga gc aV cap c':={X with own:=X.own.alloc _};rw[mP]at tn;obtain⟨c2,o1,o2,o3,o4,o5,o6⟩:=X2.push (l:=l) sX UC hgr (by simpa using gp) (by rw[HH.out];exact tn);exact⟨⟨aV,cap,c2,X.N7,o1,o2,o3,o4⟩,o5 _ (UP _),o6⟩
    obtain⟨Nq,d3,Yi⟩:=HP;have Nq:=ag Nq;clear tn hgr gp Z3 nv c3 dj;obtain⟨w6,Q6⟩:=dC (w5.setCell ⟨wb,3,none⟩ (.slice (some ⟨g,0,none⟩) (j+1) cp));rw[←Q6]at Nq
    have ag4:Hid (Calls prog 84 #[.pointer (some ⟨wb,0,none⟩),I j] w6 fun e w'=>e=.returned (.tuple #[])∧w'=w6.drew.setCells g (j*25) (aW0 (.slice la ln lc))):=by
     obtain⟨aV,cap,c',q0,q1,q2,q3,q4⟩:=Nq.out;refine Lt wb g j (j+1) cp la ln lc w6 oX oX ?_ (fun q v hq=>?_) (q1.frozen (k:=Sum.inl .gs) (bq _ _ _))
     ·refine q1.cell (k:=Sum.inl .al) (by rw[aD _ _ sX,(q0 _ sX).1];exact TD) ?_;rw[q3];exact UP _
     ·refine q1.cell (k:=Sum.inl .gs) (bq _ _ _) ?_;rw[q4,Ew (by rw[aV9 (k:=25) (fun _ _=>rfl),tC];rw[←Hn.out];omega),aV9 (k:=25) (fun _ _=>rfl),tC,←Hn.out,Nat.min_eq_left hj,HH.out,Nat.add_sub_cancel_left];exact hq
    have HW6:=ag Q6;clear Q6;go_wp2_with (go_at_call 84;rw[←HW6.out];refine ag4.out.mono ?_;rintro e w7 ⟨rfl,Q7⟩;have HW7:=ag Q7;clear Q7);have HN:Hid (∃aV cap c,rV w.heap.size w w7 p (Sum.inl .gs) (Sum.inl .al) GN wb Hz TY Nn C (j+1) (some ⟨g,0,none⟩) cp aV cap c):=(by obtain⟨aV,cap,c',q0,q1,q2,q3,q4⟩:=Nq.out;have:=rV.clear (H:=GN) HL sX TD q0 q1 q2 q3 q4;rw[HH.out]at this;rw[HW7.out];exact this);clear Nq ag4 HW7 HW6;go_roundw
    case rel=>exact⟨j+1,_,_,bl2,oX,HN⟩
    case measure=>simp[intOf];omega
   ·obtain rfl:j=n:=by omega
    go_wp2;go_ret2;obtain⟨aV,cap,c,X⟩:=HX.out;obtain⟨rfl,rfl,rfl,rfl,rfl⟩:=HEQ.out;obtain⟨F,m,hF,R⟩:=Ua Hn.out Xe h8.1 HC X HDD;exact⟨F,m,by rw[hF];rfl,R,X.own.below⟩
theorem kH{p:List (List cu)}(h:im p=true):(1≤p.length∧p.length≤8)∧CQ p∧V.z8 p:=by
 unfold im at h;simp only[qs,decide_eq_true_eq,List.all_eq_true]at h;obtain⟨⟨h1,h2⟩,h3⟩:=h
 have hm:∀j,p.getD j []=[]∨p.getD j []∈p:=fun j=>by
  rcases Nat.lt_or_ge j p.length with hj|hj
  ·right;rw[yk,fv hj];exact List.getElem_mem _
  ·left;rw[yk,rq hj];rfl
 have Pu:∀l∈p,∀o∈l,V.Vz o∧o.cases.length≤6:=fun l hl o ho=>by have:=(h1 l hl).1 o ho;unfold yF at this;simp only[qs,Bool.or_eq_true,decide_eq_true_eq,Bool.not_eq_true',List.all_eq_true]at this;obtain⟨⟨⟨⟨⟨⟨⟨⟨⟨⟨⟨⟨⟨a1,a2⟩,a3⟩,a4⟩,a5⟩,a6⟩,a7⟩,a8⟩,a9⟩,a10⟩,a11⟩,a12⟩,a13⟩,YK⟩:=this;refine⟨⟨⟨a1,a2⟩,⟨a3,a4⟩,⟨a5,a6⟩,a9,fun c hc=>?_⟩,a9⟩;have:=YK c hc;unfold qg at this;simp only[qs,Bool.or_eq_true,decide_eq_true_eq]at this;omega
 refine⟨⟨h2,h3⟩,⟨oX,fun j=>?_,fun j k o ho=>?_⟩,⟨h3,fun l hl=>(h1 l hl).2,fun l hl o ho=>(Pu l hl o ho).1⟩⟩
 ·rcases hm j with e|e
  ·rw[e];simp
  ·have:=(h1 _ e).2;omega
 ·rcases hm j with e|e
  ·rw[e]at ho;cases ho
  ·have:=(Pu _ e o (lf ho)).2;omega
section
variable(p:List (List cu))(n:Nat)(hn:n=p.length)(a:Option Addr)(ca:Nat)
include p n hn a ca
theorem GO(x y:Int)(da:Option Addr)(nd cd:Nat)(w:World)(h1:aH1 w a p)(hp:im p=true)(gI:nK x n y=false):Calls prog 43 #[.slice a n ca,.agg #[I x,I y],.slice da nd cd] w (eL (.tuple #[.pointer none,I 1]) (Below w.heap.size w)):=by
 have HR:=ag (fun W (hb:Below w.heap.size w W)=>xh p n hn a ca W (h1.below hb cG) hp);have HN:=ag (fun W=>Hr x n y gI W);have KS:Hid (Below w.heap.size w (w.alloc (.cells #[I x,I y] 24))):=(fp _ _).alloc cG _;have oH:(w.alloc (.cells #[I x,I y] 24)).heap[w.heap.size]?=some (.cells #[I x,I y] 24 (0,0)):=dP _ _;have wH:=ag oH;clear hn h1 hp gI oH;go_enter func43,ntmps43
 go_wp2_with (first
  |(go_at_call 77;refine(HR _ KS.out).mono ?_;rintro e w1 ⟨rfl,hb⟩;have c0:w1.cell? ⟨w.heap.size,0,none⟩=some (I x):=bw3;have c1:w1.cell? ⟨w.heap.size,1,none⟩=some (I y):=bw3;have pH:Hid (Below w.heap.size w w1):=KS.out.trans (hb.mono sX);clear hb)
  |(go_at_call 78;refine(HN _).mono ?_;rintro e w2 ⟨rfl,rfl⟩))
 go_ret2;exact⟨rfl,pH⟩
theorem Ea(N most:Nat)(draws:List Int)(nd:Nat)(fX:nd=draws.length)(da:Option Addr)(cd:Nat)(w:World)(h1:aH1 w a p)(hp:im p=true)(gI:nK N n most=true)(hd:Rd .u16 w da draws)(M5:nd≤300)(hr:∀z∈draws,0≤z∧z≤65535):Calls prog 43 #[.slice a n ca,.agg #[I N,I most],.slice da nd cd] w fun e w'=>∃F m,e=.returned (.tuple #[.pointer (some ⟨F.al,0,none⟩),I 0])∧bz w.heap.size F w' m (V.gj p N most draws)∧Below w.heap.size w w':=by
 obtain⟨h8,hS,_⟩:=kH hp;have hN:N≤64:=by unfold nK at gI;simp only[qs,decide_eq_true_eq]at gI;omega
 exact GM p n hn a ca N most draws nd fX da cd w h1 hS oX hN gI hd M5 hr fun W hb=>xh p n hn a ca W (h1.below hb cG) hp
theorem M6(x y:Int)(da:Option Addr)(nd cd:Nat)(w:World)(h1:aH1 w a p)(hp:im p=true)(gI:nK x n y=false):Calls prog 23 #[.slice a n ca,.agg #[I x,I y],.slice da nd cd] w (eL (.tuple #[.pointer none,I 1]) (Below w.heap.size w)):=by
 have KS:Below w.heap.size w (w.alloc (.cells #[I x,I y] 24)):=(fp _ _).alloc cG _;have HS:=ag (GO p n hn a ca x y da nd cd (w.alloc (.cells #[I x,I y] 24)) (h1.below KS cG) hp gI);have BK:=ag KS;clear hn h1 hp gI KS;go_enter func23,ntmps23;go_wp2_with (go_at_call 43;refine HS.out.mono ?_;rintro e w1 ⟨rfl,hb⟩;have pH:Hid (Below w.heap.size w w1):=BK.out.trans (hb.mono sX);clear hb);go_ret2;exact⟨rfl,pH⟩
theorem Ai(N most:Nat)(draws:List Int)(nd:Nat)(fX:nd=draws.length)(da:Option Addr)(cd:Nat)(w:World)(h1:aH1 w a p)(hp:im p=true)(gI:nK N n most=true)(hd:Rd .u16 w da draws)(M5:nd≤300)(hr:∀z∈draws,0≤z∧z≤65535):Calls prog 23 #[.slice a n ca,.agg #[I N,I most],.slice da nd cd] w fun e w'=>∃F m eb,e=.returned (.tuple #[.pointer (some ⟨eb,0,none⟩),I 0])∧bz (w.heap.size+1) F w' m (V.gj p N most draws)∧Below w.heap.size w w'∧w'.heap[eb]?=some (.cells #[.pointer (some ⟨F.al,0,none⟩)] 78 (0,0))∧w.heap.size≤eb∧∀r,m.aV r≠some eb:=by
 have KS:Below w.heap.size w (w.alloc (.cells #[I N,I most] 24)):=(fp _ _).alloc cG _;have HS:=ag (Ea p n hn a ca N most draws nd fX da cd (w.alloc (.cells #[I N,I most] 24)) (h1.below KS cG) hp gI (hd.below KS cG) M5 hr);have BK:=ag KS;clear hn h1 hp gI KS fX hd M5 hr;go_enter func23,ntmps23;go_wp2_with (go_at_call 43;refine HS.out.mono ?_;rintro e w1 ⟨F,m,rfl,R,hb⟩;have pH:Hid (Below w.heap.size w w1):=BK.out.trans (hb.mono sX);have HR:=ag R;clear hb R);go_ret2;have hs:=pH.out.size;have R:=HR.out;rw[show(w.alloc (.cells #[I N,I most] 24)).heap.size=w.heap.size+1 by simp]at R;exact⟨F,m,w1.heap.size,rfl,R.heap (fun r b hb=>gf _ _ _ (R.lt hb)),pH.out.alloc hs _,dP _ _,hs,fun r e=>aX (R.lt e) oX⟩
end
def jR(p:List (List cu))(x y:Int):Int:=if im p then(if nK x p.length y then 0 else 1)else 3
theorem iy.start{w w1:World}{x y:Int}{D:Value}{Z:Array Value}(hZ:Z.size=12)(hb:Below (w.heap.size+2) ((w.alloc (.cells #[I x,I y] 24)).alloc (.cells Z 41)) w1):iy w.heap.size w (w1.alloc (.cells #[I x,I y,I 0,.slice none 0 0,.slice none 0 0,.slice none 0 0,.slice none 0 0,.slice none 0 0,I 0,D,I 0,.slice none 0 0] 41)) w1.heap.size w.heap.size (w.heap.size+1) x y D (.slice none 0 0) (.slice none 0 0) (.slice none 0 0) 0 0 0:=by
 have s1:(w.alloc (.cells #[I x,I y] 24)).heap.size=w.heap.size+1:=sX
 have s2:((w.alloc (.cells #[I x,I y] 24)).alloc (.cells Z 41)).heap.size=w.heap.size+2:=sX
 have O0:=cN.nil w.heap.size w cG L9;have O1:=O0.add (r:=.cf) (b:=w.heap.size) (cp:=0) (xs:=[I x,I y]) (w':=w.alloc (.cells #[I x,I y] 24)) ((fp _ _).alloc cG _) cG (fF (dP _ _) rfl (fun p h=>by simp[L9]at h));have O2:=O1.add (r:=.rs) (b:=w.heap.size+1) (cp:=1) (xs:=Z.toList) (w':=(w.alloc (.cells #[I x,I y] 24)).alloc (.cells Z 41)) ((fp _ _).alloc cG _) (by rw[s1];exact Nat.le_refl _) (fF (t:=41) bo6 rfl (fun p h=>by simp[L9]at h;subst h;exact⟨rfl,by rw[hZ];rfl,dX⟩));have O3:=(O2.eC (by rw[s2];exact hb)).add (r:=.st) (b:=w1.heap.size) (cp:=0) (xs:=[I x,I y,I 0,.slice none 0 0,.slice none 0 0,.slice none 0 0,.slice none 0 0,.slice none 0 0,I 0,D,I 0,.slice none 0 0]) (w':=w1.alloc (.cells #[I x,I y,I 0,.slice none 0 0,.slice none 0 0,.slice none 0 0,.slice none 0 0,.slice none 0 0,I 0,D,I 0,.slice none 0 0] 41)) ((fp _ _).alloc cG _) cG (fF (dP _ _) rfl (fun p h=>by simp[L9]at h));refine⟨_,_,_,O3,?_,?_,?_,?_,?_,?_,?_,?_,?_,?_,?_,?_⟩<;>simp[up,nG,hZ]
theorem iy.push{lo ty sz n:Nat}{cU:Value}{xs:List Value}{wr w':World}{us:Array Value}{g cp:Nat}{P:World→Nat→Nat→Prop}(hu:us.size=sz)(hp:∀(w':World) (g cp:Nat) (us:List Value),us.length=sz→(wr.alloc (.cells us.toArray ty)).grownBy w' cU.ownBlock→w'.ownsRow lo ty sz (.slice (some ⟨g,0,none⟩) (n+1) cp) (n+1) (xs++us)→(cU.ownBlock=some g∨(wr.alloc (.cells us.toArray ty)).heap.size≤g)→P w' g cp)(h:w'.ownsRow lo ty sz (.slice (some ⟨g,0,none⟩) (n+1) cp) (n+1) (xs++us.toList)∧(wr.alloc (.cells us ty)).grownBy w' cU.ownBlock∧(cU.ownBlock=some g∨(wr.alloc (.cells us ty)).heap.size≤g)):P w' g cp:=
 hp w' g cp us.toList (by simpa using hu) h.2.1 h.1 h.2.2
theorem Q8(args:Array Value)(w:World):(callFunc 45 args).run prog w=.ok (.enter 45 args) w:=by
 have hN : (Tryz.f45.name == "runtime.NumGoroutine") = false := kX
 have hN : ¬ Tryz.f45.name = "runtime.NumGoroutine" := by simpa using hN
 have hB:Tryz.f45.body.isNone=false:=kX
 have hB:¬Tryz.f45.body=none:=fun h=>by rw[h]at hB;cases hB
 simp[callFunc,func45,go_sem,hN,hB]
theorem GP(p:List (List cu))(n:Nat)(hn:n=p.length)(a:Option Addr)(ca:Nat)(x y:Int)(da:Option Addr)(nd cd:Nat)(w:World)(h1:aH1 w a p):Calls prog 24 #[.slice a n ca,.agg #[I x,I y],.slice da nd cd] w fun e w'=>∃cs:Array Value,cs.size=12∧cs.all (·.oneCell')=true∧e=.returned (.tuple #[.agg cs,I (jR p x y)])∧Below w.heap.size w w':=by
 obtain⟨iG,gi,RO,RP,RQ⟩:=info_parts uS;obtain⟨iS,si,sz0,sz1,sz2⟩:=info_parts xU;obtain⟨iV,vi,vz0,vz1,vz2⟩:=info_parts NS;have hsz:n≤9223372036854775807:=bu5
 have j8:∀i,i<n→∃b off r ln lc,a=some ⟨b,off,none⟩∧b<w.heap.size∧w.cell? ⟨b,off+i,none⟩=some (.slice r ln lc):=fun i hi=>by
  have hp:p[i]?=some (p[i]' oX):=fv _;obtain⟨b,off,r,c,h2,h3,h4⟩:=h1.2 i _ hp;refine⟨b,off,r,_,c,h2,?_,h3⟩;rcases Nat.lt_or_ge b w.heap.size with h|h
  ·exact h
  ·simp[World.cell?,Array.getElem?_eq_none h]at h3
 have HC:=ag j8;have HP8:Hid (im p=true→n≤8):=fun h=>by have:=(kH h).1;omega
 have HX:Hid (nK x n y=true→0≤x∧x≤64):=fun h=>by unfold nK at h;simp only[qs,decide_eq_true_eq]at h;omega
 have Ap:Hid (∀W,Below w.heap.size w W→Calls prog 22 #[.slice a n ca] W fun e w'=>e=.returned (.bool (im p))∧Below W.heap.size W w'):=fun W hb=>Ad p n hn a ca W (h1.below hb cG)
 have Ah:=ag (fun W=>Hp x n y W);have HN:=ag hn;clear h1 j8 hn;go_enter func24,ntmps24;go_upto_region 1 with fail
 obtain⟨rb,fA⟩:∃b,b=w.heap.size+1:=⟨_,rfl⟩;obtain⟨cb,fP⟩:∃b,b=w.heap.size:=⟨_,rfl⟩;obtain⟨WA,Xg⟩:∃W,W=(w.alloc (.cells #[I x,I y] 24)).alloc (.cells ZRX 41):=⟨_,rfl⟩;rw[←fA,←fP];change Code.wp _ _ _ _ ((w.alloc (.cells #[I x,I y] 24)).alloc (.cells ZRX 41));rw[←Xg];have s1:(w.alloc (.cells #[I x,I y] 24)).heap.size=w.heap.size+1:=sX
 have sA:WA.heap.size=w.heap.size+2:=by rw[Xg];simp
 have hB:Below w.heap.size w WA:=by rw[Xg];exact((fp _ _).alloc cG _).alloc bl0 _
 have hzA:WA.heap[rb]?=some (.cells ZRX 41 (0,0)):=by rw[Xg,fA,←s1];exact dP _ _
 have hcA:WA.heap[cb]?=some (.cells #[I x,I y] 24 (0,0)):=by rw[Xg,fP];exact(gf _ _ _ bl0).trans (dP _ _)
 have Ve:Hid (WA=(w.alloc (.cells #[I x,I y] 24)).alloc (.cells ZRX 41)∧rb=w.heap.size+1∧cb=w.heap.size∧WA.heap.size=w.heap.size+2):=⟨Xg,fA,fP,sA⟩;have Yj:=ag (dO hzA hcA);have RR:=ag hB;clear Xg fA fP s1 sA hB hzA hcA;have Ot:=ag (Ap.out WA RR);clear Ap;have fin:∀(w1:World) (cs:Array Value),cs.size=12→Below WA.heap.size WA w1→Below w.heap.size w (w1.setCells rb 0 cs.toList)∧(w1.setCells rb 0 cs.toList).heap[rb]?=some (.cells cs 41 (0,0)):=fun w1 cs fa hb=>by obtain⟨_,h2,h3,h4⟩:=Ve.out;have hz:w1.heap[rb]?=some (.cells ZRX 41 (0,0)):=(hb.block rb oX).trans Yj.out.1;exact⟨Below.setCells oX _ _ _ (RR.out.trans (hb.mono oX)),dI hz (by rw[fa];rfl)⟩
 have yV:=ag fin;clear fin
 cases hp:im p with
 |false=>
  have HE:Hid (jR p x y=3):=by show jR p x y=3;unfold jR;rw[hp];rfl
  rw[hp]at Ot
  go_wp2_with (first
   |(go_at_call 22;refine Ot.out.mono ?_;rintro e w1 ⟨rfl,hb⟩;have pH:=ag hb;have hz:w1.heap[rb]?=some (.cells ZRX 41 (0,0)):=(hb.block rb bs6).trans Yj.out.1;have Ue:=ag hz;clear hb hz)
   |(refine cB rfl 41 (.tmp 6) (.tmp 15) rfl rb 0 ZRX rfl rfl jB (fun q hq=>by rw[Nat.zero_add,cr _ _ _ _ _ _ Ue.out,xL hq];rfl) (fun q hq=>iM _ _ _ _ _ Ue) bi9 ?_))
  refine bodyPost_ret (tZ rfl _ _ rb ZRX 41 (0,0) uV jB rfl (yV w1 ZRX rfl pH).2) rfl ?_;exact⟨ZRX,rfl,bi9,by rw[HE.out];rfl,(yV w1 ZRX rfl pH).1⟩
 |true=>
  rw[hp]at Ot;have hn8:=HP8.out hp
  cases gI:nK x n y with
  |false=>
   have HE:Hid (jR p x y=1):=(by show jR p x y=1;unfold jR;rw[hp,←HN.out,gI];rfl);rw[gI]at Ah
   go_wp2_with (first
    |(go_at_call 22;refine Ot.out.mono ?_;rintro e w1 ⟨rfl,hb⟩;have pH:=ag hb;have hz:w1.heap[rb]?=some (.cells ZRX 41 (0,0)):=(hb.block rb bs6).trans Yj.out.1;have hc:w1.heap[cb]?=some (.cells #[I x,I y] 24 (0,0)):=(hb.block cb bs6).trans Yj.out.2;have k0:w1.cell? ⟨cb,0,none⟩=some (I x):=bq1;have k1:w1.cell? ⟨cb,1,none⟩=some (I y):=bq1;have Ue:=ag hz;clear hb hz hc)
    |(go_at_call 44;refine(Ah _).mono ?_;rintro e w2 ⟨rfl,rfl⟩)
    |(refine cB rfl 41 (.tmp 6) (.tmp 24) rfl rb 0 ZRX rfl rfl jB (fun q hq=>by rw[Nat.zero_add,cr _ _ _ _ _ _ Ue.out,xL hq];rfl) (fun q hq=>iM _ _ _ _ _ Ue) bi9 ?_))
   refine bodyPost_ret (tZ rfl _ _ rb ZRX 41 (0,0) uV jB rfl (yV w1 ZRX rfl pH).2) rfl ?_;exact⟨ZRX,rfl,bi9,by rw[HE.out];rfl,(yV w1 ZRX rfl pH).1⟩
  |true=>
   have HE:Hid (jR p x y=0):=(by show jR p x y=0;unfold jR;rw[hp,←HN.out,gI];rfl);obtain⟨Hm,av0⟩:=HX.out gI;obtain⟨N,rfl⟩:∃N:Nat,x=N:=⟨x.toNat,oX⟩;have aB5:N≤64:=oX;rw[gI]at Ah;clear Hm av0 hp gI HX HP8
   go_wp2_with (first
    |(go_at_call 22;refine Ot.out.mono ?_;rintro e w1 ⟨rfl,hb⟩;have pH:=ag hb;have hc:w1.heap[cb]?=some (.cells #[I N,I y] 24 (0,0)):=(hb.block cb bs6).trans Yj.out.2;have k0:w1.cell? ⟨cb,0,none⟩=some (I N):=bq1;have k1:w1.cell? ⟨cb,1,none⟩=some (I y):=bq1;clear hb hc)
    |(go_at_call 44;refine(Ah _).mono ?_;rintro e w2 ⟨rfl,rfl⟩))
   have H0:Hid (iy w.heap.size w (w1.alloc (.cells #[I N,I y,I 0,.slice none 0 0,.slice none 0 0,.slice none 0 0,.slice none 0 0,.slice none 0 0,I 0,.slice da nd cd,I 0,.slice none 0 0] 41)) w1.heap.size cb rb N y (.slice da nd cd) (.slice none 0 0) (.slice none 0 0) (.slice none 0 0) 0 0 0):=(by obtain⟨e1,e2,e3,e4⟩:=Ve.out;rw[e2,e3];refine iy.start (Z:=ZRX) rfl ?_;rw[←e1,←e4];exact pH);obtain⟨sb,mB⟩:∃b,b=w1.heap.size:=⟨_,rfl⟩;rw[←mB]at H0 ⊢;clear k0 k1 pH mB Ah Ot Yj Ve RR HN;go_loopw [30] (fun i wr=>∃(j:Nat) (ga:Option Addr) (gc:Nat) (va:Option Addr) (vc:Nat),i=.int .i64 j∧j≤n∧Hid (iy w.heap.size w wr sb cb rb N y (.slice da nd cd) (.slice ga j gc) (.slice none 0 0) (.slice va j vc) j 0 j)) (fun i _=>n-(intOf i).toNat)
   case atStart=>exact⟨0,none,0,none,0,rfl,oX,H0⟩
   case round=>
    clear H0;obtain⟨j,ga,gc,va,vc,rfl,hj,HR⟩:=hrel;by_cases dD:j<n
    ·obtain⟨b,off,la,ln,lc,rfl,Ta,j8⟩:=HC.out j dD;have hcw:=cw HR.out.uw.1 cG _ _ j8;have c3:=HR.out.cells.1 3 _ rfl;have HF:=ag (fun(ops:Array Oper) (o:Oper) (ac:Act) (K:Act→World→Prop) (Q:Exit→Act→World→Prop) (E:Prop) (W:World) (nX:o.guard=none) (ho:o.op=.call {callee:=.value (.func 45),args:=#[.tmp 36,.const (.int .i64 0)],argTypes:=#[50,3]}) (ha:(#[.tmp 36,.const (.int .i64 0)]:Array Operand).map ac.eval=#[.slice la ln lc,I 0]) (hB:Below wr.heap.size wr W) (hK:∀w1,Below W.heap.size W w1→K (ac.put o.dst (.agg (NC la ln lc))) w1)=>wy (P:=prog) (ops:=ops) (o:=o) (a:=ac) (w:=W) (K:=K) (Q:=Q) (E:=E) nX 45 _ _ ho (fun args=>Q8 args W) _ ha _ (AV la ln lc W) (fun e w' h=>by obtain⟨he,h1⟩:=h;exact⟨.agg (NC la ln lc),he,hK w' h1⟩));clear j8;go_upto_region 9 with fail
     clear hcw
     go_region_law
      (first
       |(refine HF _ _ _ _ _ _ _ rfl rfl bj0 (by first|exact fp _ _|exact(fp _ _).drew) ?_;intro w2 hb;have Ou:=ag ((HR.out.eC (fp _ _).drew).eC hb);have d3:=Ou.out.cells.1 3 _ rfl;have Yi:=Ou.out.cells.2.1 3;have ld:=Ou.out.cells.2.2.1;have HG:=ag Ou.out.gs;clear hb)
       |(obtain⟨xs,hown,cM,cP,Kw⟩:=HG.out;have qq:=Ou.out.uw.2;have HP:=ag (dO cM (dO cP Kw));have HO:=ag hown;clear hown cM cP Kw HG;refine qR (us:=(NC la ln lc)) (w2:=w2) rfl (.tmp 35) (.tmp 38) 35 rfl underlying35 gi RO RP RQ rfl dX dX rfl rfl bi9 (.slice ga j gc) j _ rfl HO rfl oX qq ?_;clear HO;intro gg hU w9 jl bX bE;have kz:(w2.alloc (.cells (NC la ln lc) 100)).grownBy w9 (Value.slice ga j gc).ownBlock:=lZ bX rfl rfl rfl rfl;have Ae:w9.heap[sb]?=w2.heap[sb]?:=(by rw[kz.block sb bi8 (fun e=>HP.out.1 e.symm),gf _ _ _ ld]);have z3:w9.cell? ⟨sb,3,none⟩=some (.slice ga j gc):=(kZ Ae).trans d3;have fz3:w9.frozen? ⟨sb,3,none⟩=false:=(xp Ae).trans Yi;have H9:=ag (dO jl (dO kz bE));clear jl bX bE kz Ae)
       | fail "no arm")
     all_goals
      have Yk:Hid (iy w.heap.size w (w9.setCell ⟨sb,3,none⟩ (.slice (some ⟨gg,0,none⟩) (j+1) hU)) sb cb rb N y (.slice da nd cd) (.slice (some ⟨gg,0,none⟩) (j+1) hU) (.slice none 0 0) (.slice va j vc) (j+1) 0 j):=Ou.out.gs2 rfl HP.out.2 H9;obtain⟨RS,Q9⟩:∃W,W=w9.setCell ⟨sb,3,none⟩ (.slice (some ⟨gg,0,none⟩) (j+1) hU):=⟨_,rfl⟩;rw[←Q9]at Yk ⊢;clear Q9 H9 z3 fz3 HP qq ld d3 Yi Ou HF c3 HC Ta HR;have c6:=Yk.out.cells.1 6 _ rfl;have f6:=Yk.out.cells.2.1 6;have NB:=Yk.out.cells.2.2.1;have KG:Hid (iy w.heap.size w (RS.alloc (.cells #[] 3)) sb cb rb N y (.slice da nd cd) (.slice (some ⟨gg,0,none⟩) (j+1) hU) (.slice none 0 0) (.slice va j vc) (j+1) 0 j):=Yk.out.alloc _;obtain⟨xs2,fu,xw,sl,Aj⟩:=KG.out.ca;have e6:=KG.out.cells.1 6 _ rfl;have g6:=KG.out.cells.2.1 6;have ld:=KG.out.cells.2.2.1;have qq:=KG.out.uw.2;have HO:=ag fu;have HP:=ag (dO xw (dO sl Aj));have Q9:Hid ((RS.alloc (.cells #[] 3)).heap.size=RS.heap.size+1):=(by simp:(RS.alloc (.cells #[] 3)).heap.size=RS.heap.size+1);clear fu xw sl Aj;go_wp2_with (at_builtin;go_loud (refine gY (us:=#[.slice (some ⟨RS.heap.size,0,none⟩) 0 0]) (w2:=RS.alloc (.cells #[] 3)) rfl (.tmp 42) (.tmp 44) 38 rfl underlying38 vi vz0 vz1 vz2 rfl dX dX rfl rfl bi9 (.slice va j vc) j _ rfl HO (RS.heap.size+1) (Q9.out.symm) rfl oX qq ?_);clear HO;intro gx cpx Uf hown hgr gp;have Ae:Uf.heap[sb]?=(RS.alloc (.cells #[] 3)).heap[sb]?:=(by rw[hgr.block sb bi8 (fun e=>HP.out.1 e.symm),gf _ _ _ ld]);have z6:Uf.cell? ⟨sb,6,none⟩=some (.slice va j vc):=(kZ Ae).trans e6;have fz6:Uf.frozen? ⟨sb,6,none⟩=false:=(xp Ae).trans g6;have H11:=ag (dO hown (dO hgr gp));clear hown hgr gp Ae)
      have HN3:Hid (iy w.heap.size w (Uf.setCell ⟨sb,6,none⟩ (.slice (some ⟨gx,0,none⟩) (j+1) cpx)) sb cb rb N y (.slice da nd cd) (.slice (some ⟨gg,0,none⟩) (j+1) hU) (.slice none 0 0) (.slice (some ⟨gx,0,none⟩) (j+1) cpx) (j+1) 0 (j+1)):=
       iy.push (us:=#[.slice (some ⟨RS.heap.size,0,none⟩) 0 0]) (P:=fun W g cp=>iy w.heap.size w (W.setCell ⟨sb,6,none⟩ (.slice (some ⟨g,0,none⟩) (j+1) cp)) sb cb rb N y (.slice da nd cd) (.slice (some ⟨gg,0,none⟩) (j+1) hU) (.slice none 0 0) (.slice (some ⟨g,0,none⟩) (j+1) cp) (j+1) 0 (j+1)) rfl HP.out.2.2 H11
      clear H11 HP KG Yk z6 fz6 e6 g6 c6 f6 NB ld qq Q9;go_roundw
      case rel=>exact⟨j+1,_,_,_,_,bl2,oX,HN3⟩
      case measure=>simp[intOf];omega
    ·obtain rfl:j=n:=by omega
     go_wp2;go_loopw [11] (fun i wr=>∃(s:Nat) (sa:Option Addr) (sc:Nat),i=.int .i64 s∧s≤N∧Hid (iy w.heap.size w wr sb cb rb N y (.slice da nd cd) (.slice ga j gc) (.slice sa s sc) (.slice va j vc) j s j)) (fun i _=>N-(intOf i).toNat)
     case atStart=>exact⟨0,none,0,rfl,oX,HR⟩
     case round=>
      clear HR;obtain⟨s,sa,sc,rfl,hs,HR⟩:=hrel;have k0:=HR.out.cells.2.2.2.1;by_cases rT:s<N
      ·have NB:=HR.out.cells.2.2.1;have e6:=HR.out.cells.1 5 _ rfl;have g6:=HR.out.cells.2.1 5;have qq:=HR.out.uw.2;obtain⟨xs2,fu,xw,sl,Aj⟩:=HR.out.su;have HO:=ag fu;have HP:=ag (dO xw (dO sl Aj));clear fu xw sl Aj;go_wp2_with (at_builtin;go_loud (refine gY (us:=#[B false,I 0,I 0,I 0,B false,I 0,B false]) (w2:=wr) rfl (.tmp 55) (.tmp 57) 37 rfl underlying37 si sz0 sz1 sz2 rfl dX dX rfl rfl bi9 (.slice sa s sc) s _ rfl HO wr.heap.size (rfl) rfl oX qq ?_);clear HO;intro gx cpx Uf hown hgr gp;have Ae:Uf.heap[sb]?=(wr).heap[sb]?:=(by rw[hgr.block sb bi8 (fun e=>HP.out.1 e.symm),gf _ _ _ NB]);have z6:Uf.cell? ⟨sb,5,none⟩=some (.slice sa s sc):=(kZ Ae).trans e6;have fz6:Uf.frozen? ⟨sb,5,none⟩=false:=(xp Ae).trans g6;have H11:=ag (dO hown (dO hgr gp));clear hown hgr gp Ae)
       have HN3:Hid (iy w.heap.size w (Uf.setCell ⟨sb,5,none⟩ (.slice (some ⟨gx,0,none⟩) (s+1) cpx)) sb cb rb N y (.slice da nd cd) (.slice ga j gc) (.slice (some ⟨gx,0,none⟩) (s+1) cpx) (.slice va j vc) j (s+1) j):=
        iy.push (us:=#[B false,I 0,I 0,I 0,B false,I 0,B false]) (P:=fun W g cp=>iy w.heap.size w (W.setCell ⟨sb,5,none⟩ (.slice (some ⟨g,0,none⟩) (s+1) cp)) sb cb rb N y (.slice da nd cd) (.slice ga j gc) (.slice (some ⟨g,0,none⟩) (s+1) cp) (.slice va j vc) j (s+1) j) rfl HP.out.2.2 H11
       clear H11 HP z6 fz6 e6 g6 NB qq k0 HR;go_roundw
       case rel=>exact⟨s+1,_,_,bl2,oX,HN3⟩
       case measure=>simp[intOf];omega
      ·obtain rfl:s=N:=by omega
       obtain⟨⟨Z,tz,hZ,hzr⟩,ja⟩:=HR.out.res;have Yl:=ag (dO hZ (dO hzr ja));clear hZ hzr ja;go_upto_region 16 with fail
       refine wp_region_lit ?_;refine wpList_load_mid rfl 41 (.tmp 8) rfl sb 0 rfl #[I s,I y,I 0,.slice ga j gc,.slice none 0 0,.slice sa s sc,.slice va j vc,.slice none 0 0,I 0,.slice da nd cd,I 0,.slice none 0 0] (fun q v hv=>by rw[Nat.zero_add];rw[←Array.getElem?_toList]at hv;exact HR.out.cells.1 q v hv) uV jB ?_;refine cB rfl 41 (.tmp 6) (.tmp 60) rfl rb 0 #[I s,I y,I 0,.slice ga j gc,.slice none 0 0,.slice sa s sc,.slice va j vc,.slice none 0 0,I 0,.slice da nd cd,I 0,.slice none 0 0] rfl rfl jB (fun q hq=>by rw[Nat.zero_add,cr _ _ _ _ _ _ Yl.out.2.1,xL (by rw[Yl.out.1];exact hq)];rfl) (fun q hq=>iM _ _ _ _ _ Yl.out.2.1) bi9 ?_;go_wp2;have iw:=dI (cs:=#[I s,I y,I 0,.slice ga j gc,.slice none 0 0,.slice sa s sc,.slice va j vc,.slice none 0 0,I 0,.slice da nd cd,I 0,.slice none 0 0]) Yl.out.2.1 (by rw[Yl.out.1];rfl);refine bodyPost_ret (tZ rfl _ _ rb #[I s,I y,I 0,.slice ga j gc,.slice none 0 0,.slice sa s sc,.slice va j vc,.slice none 0 0,I 0,.slice da nd cd,I 0,.slice none 0 0] tz (0,0) uV jB rfl iw) rfl ?_;exact⟨#[I s,I y,I 0,.slice ga j gc,.slice none 0 0,.slice sa s sc,.slice va j vc,.slice none 0 0,I 0,.slice da nd cd,I 0,.slice none 0 0],rfl,bi9,by rw[HE.out];rfl,Below.setCells Yl.out.2.2 _ _ _ HR.out.uw.1⟩
def okB(p:List (List cu))(x y:Int)(nd np:Nat):Bool:=im p&&nK x p.length y&&decide (nd≤300)&&decide (np≤300)
theorem Uk(p:List (List cu))(x y:Int)(nd np:Nat):okB p x y nd np=(decide (jR p x y=0)&&decide (p.length≤8)&&decide (nd≤300)&&decide (np≤300)):=by
 unfold okB jR
 cases hp:im p<;>cases hc:nK x p.length y<;>simp;have:=(kH hp).1;simp[this.2]
section
variable(p:List (List cu))(n:Nat)(hn:n=p.length)(a:Option Addr)(ca:Nat)(x y:Int)
include p n hn a ca x y
theorem Rc(da:Option Addr)(nd cd:Nat)(pa:Option Addr)(np pc:Nat)(fX:nd≤9223372036854775807)(Fb:np≤9223372036854775807)(w:World)(h1:aH1 w a p):Calls prog 8 #[.agg #[.slice a n ca,I x,I y,.slice da nd cd],.slice pa np pc] w (eL (.bool (okB p x y nd np)) (Below w.heap.size w)):=by
 have hsz:n≤9223372036854775807:=bu5
 have HK:=ag (Uk p x y nd np);have HN:=ag hn;have HC:=ag (fun W (hb:Below w.heap.size w W)=>GP p n hn a ca x y da nd cd W (h1.below hb cG));have HB:Hid (Below w.heap.size w (w.alloc (.cells #[.slice a n ca,I x,I y,.slice da nd cd] 27))):=(fp _ _).alloc cG _;have wH:Hid ((w.alloc (.cells #[.slice a n ca,I x,I y,.slice da nd cd] 27)).heap[w.heap.size]?=some (.cells #[.slice a n ca,I x,I y,.slice da nd cd] 27 (0,0))):=dP _ _;obtain⟨r,hr⟩:=dC (jR p x y);have HRC:=ag hr;rw[←hr]at HC HK;clear h1 hn hr;go_enter func8,ntmps8
 go_upto_region 2 with(first
  |(go_at_call 24;refine(HC _ HB).mono ?_;rintro e w1 ⟨cs,fa,uY,rfl,hb⟩;have c0:w1.heap[w.heap.size]?=some (.cells #[.slice a n ca,I x,I y,.slice da nd cd] 27 (0,0)):=((hb.block _ sX).trans wH);have dD:w.heap.size<w1.heap.size:=(by have:=hb.size;simp at this;omega);have BJ:=ag (dO fa (dO uY (dO dD (dO c0 (HB.out.trans (hb.mono sX))))));clear hb fa uY dD c0)
  |(refine cB rfl 41 (.tmp 5) (.tmp 15) rfl w1.heap.size 0 cs rfl rfl (by rw[BJ.out.1];exact jB) (fun q hq=>by rw[Nat.zero_add,cr _ _ _ _ _ _ (dP _ _),xL (show q<12 by rw[BJ.out.1]at hq;exact hq)];rfl) (fun q hq=>iM _ _ _ _ _ (dP _ _)) BJ.out.2.1 ?_))
 generalize nt:(World.setCells _ _ _ _)=w2;have mz:w2.heap[w.heap.size]?=some (.cells #[.slice a n ca,I x,I y,.slice da nd cd] 27 (0,0)):=by rw[←nt,iq (by have:=BJ.out.2.2.1;omega),gf _ _ _ BJ.out.2.2.1];exact BJ.out.2.2.2.1
 have RU:Hid (Below w.heap.size w w2):=by rw[←nt];exact Below.setCells (Nat.le_of_lt BJ.out.2.2.1) _ _ _ (BJ.out.2.2.2.2.alloc (Nat.le_of_lt BJ.out.2.2.1) _)
 have c0:w2.cell? ⟨w.heap.size,0,none⟩=some (.slice a n ca):=by rw[cr _ _ _ _ _ _ mz];rfl
 have c3:w2.cell? ⟨w.heap.size,3,none⟩=some (.slice da nd cd):=by rw[cr _ _ _ _ _ _ mz];rfl
 clear nt mz HC HB wH;by_cases k1:r=0
 ·by_cases k2:n≤8
  ·by_cases k3:nd≤300
   ·by_cases k4:np≤300
    ·go_wp2;go_ret;refine⟨?_,RU⟩;rw[HK.out,←HN.out];simp[k1,k2,k3,k4];omega
    ·go_wp2;go_ret;refine⟨?_,RU⟩;rw[HK.out,←HN.out];simp[k4];omega
   ·go_wp2;go_ret;refine⟨?_,RU⟩;rw[HK.out,←HN.out];simp[k3]
  ·go_wp2;go_ret;refine⟨?_,RU⟩;rw[HK.out,←HN.out];simp[k2]
 ·go_wp2;go_ret;refine⟨?_,RU⟩;rw[HK.out,←HN.out];simp[k1]
theorem Eb(draws:List Int)(da:Option Addr)(nd cd:Nat)(fX:nd=draws.length)(pa:Option Addr)(np pc:Nat)(Dx:nd≤9223372036854775807)(Fb:np≤9223372036854775807)(w:World)(h1:aH1 w a p)(hd:nd≤300→Rd .u16 w da draws)(hr:∀z∈draws,0≤z∧z≤65535):Calls prog 7 #[.agg #[.slice a n ca,I x,I y,.slice da nd cd],.slice pa np pc] w fun e w'=>Below w.heap.size w w'∧((okB p x y nd np=false∧e=.returned (.tuple #[.pointer none,.bool false]))∨(okB p x y nd np=true∧∃N most F m eb af,x=(N:Nat)∧y=(most:Nat)∧nK N n most=true∧im p=true∧e=.returned (.tuple #[.pointer (some ⟨eb,0,none⟩),.bool true])∧w.heap.size≤af∧bz af F w' m (V.gj p N most draws)∧w'.heap[eb]?=some (.cells #[.pointer (some ⟨F.al,0,none⟩)] 78 (0,0))∧w.heap.size≤eb∧∀r,m.aV r≠some eb)):=by
 have hsz:n≤9223372036854775807:=bu5
 have HN:=ag hn
 have HP8:Hid (n> 8→im p=false):=fun h=>by
  cases hp:im p with
  |false=>rfl
  |true=>have:=(kH hp).1;omega
 have HB:Hid (Below w.heap.size w (w.alloc (.cells #[.slice a n ca,I x,I y,.slice da nd cd] 27))):=(fp _ _).alloc cG _;have wH:Hid ((w.alloc (.cells #[.slice a n ca,I x,I y,.slice da nd cd] 27)).heap[w.heap.size]?=some (.cells #[.slice a n ca,I x,I y,.slice da nd cd] 27 (0,0))):=dP _ _;have lP:Hid (okB p x y nd np=(im p&&nK x n y&&decide (nd≤300)&&decide (np≤300))):=by show okB p x y nd np=_;unfold okB;rw[hn]
 have HR:=ag (Ad p n hn a ca _ (h1.below HB cG));have HNO:=ag (fun W (hb:Below w.heap.size w W) hp gI=>M6 p n hn a ca x y da nd cd W (h1.below hb cG) hp gI);have Xi:=ag (fun W (hb:Below w.heap.size w W) hp N most gI h3=>Ai p n hn a ca N most draws nd fX da cd W (h1.below hb cG) hp gI ((hd h3).below hb cG) h3 hr);clear h1 hd hr hn fX;go_enter func7,ntmps7;go_upto_region 1 with fail
 generalize tY:w.alloc (.cells #[.slice a n ca,I x,I y,.slice da nd cd] 27)=wA at*;have c0:wA.cell? ⟨w.heap.size,0,none⟩=some (.slice a n ca):=bt1
 have c3:wA.cell? ⟨w.heap.size,3,none⟩=some (.slice da nd cd):=bt1
 have ag8:w.heap.size<wA.heap.size:=by rw[←tY];simp
 have XO:=ag ag8;clear tY ag8;by_cases k2:n> 8
 ·go_wp2;go_ret2;exact⟨HB,.inl ⟨by rw[lP.out,HP8.out k2];rfl,rfl⟩⟩
 ·by_cases k3:nd> 300
  ·go_wp2;go_ret2
   exact⟨HB,.inl ⟨by
               rw[lP.out];have:¬nd≤300:=oX
               simp[this],rfl⟩⟩
  ·by_cases k4:np> 300
   ·go_wp2;go_ret2
    exact⟨HB,.inl ⟨by
                rw[lP.out];have:¬np≤300:=oX
                simp[this],rfl⟩⟩
   ·cases hp:im p with
    |false=>
     rw[hp]at HR lP;go_wp2_with (go_at_call 22;refine HR.out.mono ?_;rintro e w1 ⟨rfl,hb⟩;have pH:=ag (HB.out.trans (hb.mono (Nat.le_of_lt XO)));clear hb);go_ret2;exact⟨pH,.inl ⟨by rw[lP.out];rfl,rfl⟩⟩
    |true=>
     rw[hp]at HR lP;have ARM:Hid (∀W,Below wA.heap.size wA W→W.cell? ⟨w.heap.size,0,none⟩=some (.slice a n ca)∧W.cell? ⟨w.heap.size,1,none⟩=some (I x)∧W.cell? ⟨w.heap.size,2,none⟩=some (I y)∧W.cell? ⟨w.heap.size,3,none⟩=some (.slice da nd cd)∧Below w.heap.size w W):=fun W hb=>by have e:=(hb.block _ XO).trans wH;refine⟨?_,?_,?_,?_,HB.out.trans (hb.mono (Nat.le_of_lt XO))⟩<;>(rw[cr _ _ _ _ _ _ e];rfl)
     have h3:nd≤300:=oX;have h4:np≤300:=oX
     cases gI:nK x n y with
     |false=>
      have av2:=ag (fun W hb=>HNO W hb hp gI);rw[gI]at lP;clear HNO Xi hp gI
      go_wp2_with (first
       |(go_at_call 22;refine HR.out.mono ?_;rintro e w1 ⟨rfl,hb⟩;obtain⟨d0,d1,d2,d3,gq⟩:=ARM.out _ hb;have pH:=ag gq;clear hb gq)
       |(go_at_call 23;refine(av2 _ pH).mono ?_;rintro e w2 ⟨rfl,hb⟩;have mq:=ag (pH.out.trans (hb.mono pH.out.size));clear hb))
      go_ret2;exact⟨mq,.inl ⟨by rw[lP.out];rfl,rfl⟩⟩
     |true=>
      have hc:=gI;unfold nK at hc;simp only[qs,decide_eq_true_eq]at hc;obtain⟨N,rfl⟩:∃N:Nat,x=N:=⟨x.toNat,oX⟩;obtain⟨most,rfl⟩:∃N:Nat,y=N:=⟨y.toNat,oX⟩;have HY:=ag (fun W hb=>Xi W hb hp N most gI h3);have UP:=ag (dO gI hp);rw[gI]at lP;clear HNO Xi hp gI hc
      go_wp2_with (first
       |(go_at_call 22;refine HR.out.mono ?_;rintro e w1 ⟨rfl,hb⟩;obtain⟨d0,d1,d2,d3,gq⟩:=ARM.out _ hb;have pH:=ag gq;clear hb gq)
       |(go_at_call 23;refine(HY _ pH).mono ?_;rintro e w2 ⟨F,m,eb,rfl,R,hb,heb,hle,cM⟩;have mq:=ag (pH.out.trans (hb.mono pH.out.size));have Bg:=ag (dO R (dO heb (dO hle cM)));clear hb R heb hle cM))
      go_ret2;obtain⟨R,heb,hle,cM⟩:=Bg.out;have hs:=pH.out.size;exact⟨mq,.inr ⟨by rw[lP.out];simp[h3,h4],N,most,F,m,eb,_,rfl,rfl,UP.out.1,UP.out.2,rfl,oX,R,heb,oX,cM⟩⟩
end
end Go.Proofs.YtadifmnmfnihdaaGreat
