import Derived.Test.YtadifmnmfnihdaaGreatA19
set_option linter.all false
set_option maxRecDepth 100000
set_option maxHeartbeats 40000000
namespace Go.Proofs.YtadifmnmfnihdaaGreat
open Go.RowKit Mach Go.Proofs.Tryz
section
variable{af:Nat}{F:Fx}{w w0 w':World}{m m0 m':Mem}{S S':Wd}{L:List (Nat×Obj)}
theorem Bf(R:bz af F w m S)(Aq:S.aq.length=S.au.length)(gm:S.aO.length=S.au.length)(room:Int)(S':Wd)(r:nP)(hm:makeChan S room=some (S',r)):Calls prog 142 #[.pointer (some ⟨F.al,0,none⟩),I room] w (eL (.agg #[I r.aJ,I r.case,I r.v,B r.ok,I r.n]) (To af F m w S')):=by
 unfold makeChan at hm;by_cases h8:8≤S.au.length
 ·rw[aF h8]at hm
  cases hm;exact(Be R room h8).mono fun e w' ⟨h1,h2⟩=>⟨h1,m,h2⟩
 rw[aE h8]at hm;by_cases h9:room<0∨64<room
 ·rw[aF h9]at hm;cases hm
 rw[aE h9]at hm
 cases hm;obtain⟨n,hn⟩:=pz (show 0≤room by omega);subst hn;have h:=DR R n oX h8 Aq gm;have e:S.au.length+1-S.aq.length=1:=oX
 rw[e];exact h
theorem Gc(X:AB af F m0 w0 m w S L)(Aq:S.aq.length=S.au.length)(gm:S.aO.length=S.au.length){room:Int}{S':Wd}{r:nP}(hm:makeChan S room=some (S',r)):Calls prog 142 #[bR F,I room] w (eL (.agg #[I r.aJ,I r.case,I r.v,B r.ok,I r.n]) fun w'=>∃m',AB af F m0 w0 m' w' S' L):=
 (Bf X.bj Aq gm room S' r hm).mono fun e w' ⟨h1,m',h2⟩=>⟨h1,m',X.av h2⟩
theorem Gd(X:AB af F m0 w0 m w S L){o:cu}(bO:eX o.ch)(ca:Option Addr)(cn cc:Nat){n:Int}(hm:wQ S o=some n):Calls prog 143 #[bR F,.agg #[I o.ai,I o.ch,I o.n,I o.v,.slice ca cn cc,B o.dG]] w (eL (I n) fun w'=>AB af F m0 w0 m w' S L):=
 (Mt X.bj o bO ca cn cc n hm).mono fun e w' ⟨h1,h2⟩=>⟨h1,X.av h2⟩
section
variable(R:bz af F w m S)(g:Nat)(x:bI)(hx:S.gs[g]?=some x)(o:cu)(ho:dH S g=o)(dj:o.cases.length≤1000)
include R g x hx o ho dj
theorem TG(hk:o.ai=1)(Aq:S.aq.length=S.au.length)(gm:S.aO.length=S.au.length)(S1:Wd)(r:nP)(hm:makeChan S o.n=some (S1,r))(eE:S1.gs[g]?=some x):Calls prog 90 #[bR F,I g] w (ee fun w'=>To af F m w (S1.ay g {x with res:=r,point:=S1.av,ae:=18}) w'):=by
 have eM:=cA hx;have c3:=R.eu;have HR:=ag (At.refl R);have jg:(o.ai==1)=true:=bj1
 obtain⟨HX,HO,HM,jc,HLK,tP⟩:=mr hx ho hm eE Aq gm;clear R hx ho hk hm eE Aq gm;unfold bR;go_enter func90,ntmps90;go_wp2_with (go_at_call 92;refine(dw HR g HX HO dj).mono ?_;rintro e w1 ⟨⟨cv,rfl,gE⟩,A1⟩;obtain⟨ca,cc,rfl⟩:=dm.shape gE;have iv:=ag ((AB.qn A1).alloc (eD o ca cc));clear A1 gE);go_wp2_with (go_at_call 142;refine(Gc iv.out.aI HLK tP HM).mono ?_;rintro e wN ⟨rfl,mN,X⟩;have RN:=X.bj;have e2:=RN.dM;have l1:=RN.lt RN.aB.gs;have l2:=RN.lt RN.aB.al;have n1:=RN.ne RN.aB.al RN.aB.gs;have n2:=n1.symm;have p2:=RN.g jc 2 _ rfl;have wW:=RN.frozen RN.aB.gs (g*25+2);have ZM:=RN.g jc 12 _ rfl;have Pb:=RN.frozen RN.aB.gs (g*25+12);have Ip:=RN.g jc 15 _ rfl;have Dm:=RN.frozen RN.aB.gs (g*25+15);have UZ:=RN.g jc 16 _ rfl;have Fz:=RN.frozen RN.aB.gs (g*25+16);have U0:=RN.g jc 17 _ rfl;have FA:=RN.frozen RN.aB.gs (g*25+17);have FB:=RN.g jc 18 _ rfl;have FC:=RN.frozen RN.aB.gs (g*25+18);have p19:=RN.g jc 19 _ rfl;have FD:=RN.frozen RN.aB.gs (g*25+19);have Y1:=X.res jc r;have Y2:=Y1.g (az jc) {x with res:=r,point:=S1.av} (q:=12) (v:=I S1.av);have Y3:=Y2.g (az (az jc)) {x with res:=r,point:=S1.av,ae:=18} (q:=2) (v:=I 18);rw[aA,aA]at Y3;have HZ:=ag Y3;clear X Y1 Y2 Y3 RN);go_end0;refine⟨rfl,mN,?_⟩;try simp only[Nat.add_assoc,Nat.reduceAdd]
 exact HZ.out.at_
theorem Qb(hk:o.ai=7)(bO:eX o.ch)(n:Int)(hm:wQ S o=some n):Calls prog 90 #[bR F,I g] w (ee fun w'=>To af F m w (S.ay g {x with res:={aJ:=1,case:= -1,ok:=true,n:=n},point:=S.av,ae:=18}) w'):=by
 have eM:=cA hx;have c3:=R.eu;have HR:=ag (At.refl R);have jg:(o.ai==1)=false:=bj1
 have TH:(o.ai==7)=true:=bj1
 have TI:(o.ai==8)=false:=bj1
 exact bv0
theorem Qc(hk:o.ai=8)(bO:eX o.ch)(n:Int)(hm:wQ S o=some n):Calls prog 90 #[bR F,I g] w (ee fun w'=>To af F m w (S.ay g {x with res:={aJ:=1,case:= -1,ok:=true,n:=n},point:=S.av,ae:=18}) w'):=by
 have eM:=cA hx;have c3:=R.eu;have HR:=ag (At.refl R);have jg:(o.ai==1)=false:=bj1
 have TH:(o.ai==7)=false:=bj1
 have TI:(o.ai==8)=true:=bj1
 exact bv0
end
theorem Ge{room:Int}{S1:Wd}{r:nP}(hm:makeChan S room=some (S1,r)):S1.gs=S.gs:=by
 unfold makeChan at hm;by_cases h8:8≤S.au.length
 ·rw[aF h8]at hm;cases hm;rfl
 rw[aE h8]at hm;by_cases h9:room<0∨64<room
 ·rw[aF h9]at hm;cases hm
 rw[aE h9]at hm
 cases hm;rfl
theorem TJ(R:bz af F w m S)(Aq:S.aq.length=S.au.length)(gm:S.aO.length=S.au.length)(g:Nat)(LB:(dH S g).ai=1∨(dH S g).ai=7∨(dH S g).ai=8)(S':Wd)(hm:KZ S g=some S'):Calls prog 90 #[.pointer (some ⟨F.al,0,none⟩),I g] w (ee (To af F m w S')):=by
 unfold KZ at hm;simp only[bW,cI]at hm;obtain⟨o,eK,x,hx,hm⟩:=hm;obtain⟨ho,bO,dj⟩:=nB eK;rw[ho]at LB;by_cases h1:o.ai=1
 ·rw[aF h1]at hm;simp only[cI]at hm;obtain⟨⟨S1,r⟩,h2,hm⟩:=hm
  cases hm;exact TG R g x hx o ho dj h1 Aq gm S1 r h2 (by rw[Ge h2];exact hx)
 rw[aE h1]at hm;rw[aF oX]at hm;simp only[cI]at hm;obtain⟨n,hn,hm⟩:=hm
 cases hm;rcases LB with h|h|h
 ·exact aX h h1
 ·exact Qb R g x hx o ho dj h bO n hn
 ·exact Qc R g x hx o ho dj h bO n hn
structure DW(af:Nat)(F:Fx)(m:Mem)(w:World)(S:Wd)(L:List (Nat×Obj))(H b n k:Nat)(wr:World):Prop where
 ab:AB af F m w m wr {S with drawn:=(fI S.list S.drawn k).2} L
 own:Own m H L wr (.slice (some ⟨b,0,none⟩) k n) k (fI S.list S.drawn k).1
theorem TN(X:AB af F m0 w0 m w S L)(hl:∀v∈S.list,0≤v∧v≤65535){n:Int}(hn:1≤n∧n≤100000)(h0:0≤S.drawn∧S.drawn≤1000000):Calls prog 197 #[.pointer (some ⟨F.gN,0,none⟩),I n] w (eL (I (gw S.list S.drawn n).1) fun w'=>At af F m w m w' {S with drawn:=(gw S.list S.drawn n).2}):=
 Mx X.bj hl n hn h0
theorem uh(X:AB af F m0 w0 m w S L)(ch:Int):Calls prog 138 #[.pointer (some ⟨F.al,0,none⟩),I ch] w fun e w'=>e=.returned (.bool (cZ S ch))∧w=w':=gJ X.bj ch
theorem vo(X0:AB af F m w m w S L)(g:Nat)(x:bI)(hx:S.gs[g]?=some x)(o:cu)(dj:o.cases.length≤1000)(hl:∀v∈S.list,0≤v∧v≤65535)(h0:0≤S.drawn∧S.drawn≤100000)(ca:Option Addr)(cc:Nat)(fa:o.cases=[]∨∃nb ob,ca=some ⟨nb,0,none⟩∧(nb,ob)∈L∧CB nb ob o.cases)(ord:List Int)(TO:ord=rz (fI S.list S.drawn o.cases.length).1 o.cases.length)(cU:∀i∈ord,∃j:Nat,i=j∧∃c,o.cases[j]?=some c∧c.ch=zG o i∧ -1000000000≤c.ch∧c.ch≤1000000000)(S7:Wd)(hS7:S7=({S with drawn:=(fI S.list S.drawn o.cases.length).2}:Wd).ay g {x with aH:=(lY S o ord).map (·.1),aq:=rZ ((lY S o ord).map (·.2))})(S':Wd)(hm:(if(lY S o ord).map (·.1)≠[]then cD S7 g 24 else if o.dG then Nc S7 g 2 else never S7 g)=some S'):Calls prog 141 #[bR F,I g,.agg #[I o.ai,I o.ch,I o.n,I o.v,.slice ca o.cases.length cc,B o.dG]] w (ee (To af F m w S')):=by
 obtain⟨i0,hi,fV,gF,gG⟩:=info_parts lC;have XV:=ag hS7;have HM7:=ag hm;clear hS7 hm;obtain⟨n,hn⟩:=dC (o.cases.length)
 have j8:∀W:World,(∀p∈L,W.heap[p.1]?=some p.2)→∀(j:Nat) c,o.cases[j]?=some c→∃nb,ca=some ⟨nb,0,none⟩∧W.cell? ⟨nb,j*3+1,none⟩=some (I c.ch):=by
  intro W hW j c hj;rcases fa with h|⟨nb,ob,h1,h2,h3⟩
  ·rw[h]at hj;cases hj
  ·exact⟨nb,h1,(h3 W (hW _ h2) j c hj).2.1⟩
 have J9:=ag j8;have au3:=ag cU;have hol:ord.length=n:=by rw[TO,rK,hn]
 rw[←hn]at dj TO XV ⊢;have HOE:=ag TO;have HOL:=ag hol;have HX:=ag (X0.alloc (.cells #[I o.ai,I o.ch,I o.n,I o.v,.slice ca n cc,B o.dG] 49));have oR:=ag hx;have HN:=ag hn;clear X0 hn fa j8 cU TO hol hx;unfold bR;go_enter func141,ntmps141;go_wp2_with (at_make;go_loud (refine wpList_make_own _ rfl _ _ 28 rfl (w.heap.size+1) 3 i0 (.int .i64 0) 1 underlying28 hi fV gF _ _ _ n rfl rfl rfl bk6 bj4 sX ?_));intro w1 hown bX;have hsz:(w.alloc (.cells #[I o.ai,I o.ch,I o.n,I o.v,.slice ca n cc,B o.dG] 49)).heap.size=w.heap.size+1:=sX
 have X1:AB af F m w m w1 S _:=HX.out.af0 (v:=.slice none 0 0) (fun g h=>bk0) (fun g h=>bk0) bX;obtain⟨q0,q1,q2,q3,q4,q5⟩:=jD X1.head;have Vd:Own m (w.heap.size+1) ((w.heap.size,.cells #[I o.ai,I o.ch,I o.n,I o.v,.slice ca n cc,B o.dG] 49)::L) w1 (.slice (some ⟨w.heap.size+1,0,none⟩) 0 n) 0 []:=by refine⟨by simpa using hown,fun g hg=>?_⟩;simp[Value.ownBlock]at hg;subst hg;exact⟨HX.out.bj.iT (by rw[hsz];exact Nat.le_refl _),fun p hp=>by have:=HX.out.Qo p hp;rw[hsz]at this;exact this⟩
 have HD:Hid (DW af F m w S ((w.heap.size,.cells #[I o.ai,I o.ch,I o.n,I o.v,.slice ca n cc,B o.dG] 49)::L) (w.heap.size+1) (w.heap.size+1) n 0 w1):=⟨X1,Vd⟩;clear X1 hown Vd bX;have RJ:=ag (fun(k:Nat)=>ke S.list S.drawn k);go_wp2;go_loopw [6,7,21] (fun v _ q wr=>∃k:Nat,v=.slice (some ⟨w.heap.size+1,0,none⟩) k n∧q=.int .i64 k∧k≤n∧Hid (DW af F m w S ((w.heap.size,.cells #[I o.ai,I o.ch,I o.n,I o.v,.slice ca n cc,B o.dG] 49)::L) (w.heap.size+1) (w.heap.size+1) n k wr)) (fun _ _ q _=>n-(intOf q).toNat)
 case atStart=>exact⟨0,rfl,rfl,oX,HD⟩
 case round=>
  clear HD;obtain⟨k,rfl,rfl,hk,HD⟩:=hrel;by_cases dD:k<n
  ·have R:=HD.out.ab.bj;have c11:=R.Us;have lw:=R.lt R.aB.al;have hbd:=DG S.list S.drawn k;have R0:0≤(fI S.list S.drawn k).2∧(fI S.list S.drawn k).2≤1000000:=by omega
   have HDK:=ag R0;clear R hbd R0;go_wp2_with (first|(go_at_call 197;refine(TN (S:={S with drawn:=(fI S.list S.drawn k).2}) (HD.out.ab.aI (w':=_) rfl rfl rfl rfl) hl (n:=(k:Int)+1) oX HDK).mono ?_;rintro e w2 ⟨rfl,A2⟩;have nx:=ag A2;have OJ:=ag (HD.out.own.av A2);clear A2)|(at_builtin;go_loud (refine wpList_append_fits _ rfl (.tmp 24) (.tmp 32) 28 rfl (w.heap.size+1) 3 i0 1 underlying28 hi gF (w.heap.size+1) k n _ rfl (OJ.out.own.alloc _) ⟨w2.heap.size,0,none⟩ 1 1 [.int .i64 (gw S.list (fI S.list S.drawn k).2 ((k:Int)+1)).1] rfl rfl (cell_one_new _ _ _) bo3 oX ?_)));intro w3 ah8 zO
   have HD3:Hid (DW af F m w S ((w.heap.size,.cells #[I o.ai,I o.ch,I o.n,I o.v,.slice ca n cc,B o.dG] 49)::L) (w.heap.size+1) (w.heap.size+1) n (k+1) w3):=by
    have hf:=OJ.out.free;have Y:=((HD.out.ab.av nx).alloc (.cells #[I (gw S.list (fI S.list S.drawn k).2 ((k:Int)+1)).1] 3)).less (L':=(w.heap.size,.cells #[I o.ai,I o.ch,I o.n,I o.v,.slice ca n cc,B o.dG] 49)::L) (fun p hp=>nO _ hp);refine⟨Y.af0 (v:=.slice (some ⟨w.heap.size+1,0,none⟩) k n) hf (fun g h=>?_) zO,⟨?_,hf⟩⟩
    ·simp[Value.ownBlock]at h;omega
    ·simpa[fI]using ah8
   clear nx OJ ah8 zO HD;go_wp2;go_roundw
   case rel=>exact⟨k+1,rfl,bl2,oX,HD3⟩
   case measure=>simp[intOf];omega
  ·obtain rfl:k=n:=by omega
   have jF:Rd .i64 wr (some ⟨w.heap.size+1,0,none⟩) (fI S.list S.drawn k).1:=(by have h:=HD.out.own.own;have h2:yv (w.heap.size+1) wr (.slice (some ⟨w.heap.size+1,0,none⟩) k k) (fI S.list S.drawn k).1:=(by unfold yv;rw[ke];exact h);obtain⟨ao,cap,e,jF⟩:=h2.rd (by rw[ke];omega);simp only[Value.slice.injEq]at e;obtain⟨rfl,_⟩:=e;exact jF);have CZ:=ag jF;have HAB:=ag HD.out.ab;clear jF HD;go_wp2_with (go_at_call 198;refine(Lc (fI S.list S.drawn k).1 k (ke _ _ _).symm (some ⟨w.heap.size+1,0,none⟩) k _ CZ dj).mono ?_;rintro e wA ⟨v36,rfl,hoo,hbb⟩;rw[←HOE.out]at hoo;obtain⟨ao,cap,rfl,hro⟩:=hoo.rd (by rw[HOL.out];omega);rw[HOL.out];obtain⟨HRO,IX⟩:=dA hro hbb;clear hoo hro hbb);have Qp:=ag ((HAB.out.below IX));have SA:Hid (vk wA.heap.size wA wA (.slice none 0 0) (.slice none 0 0) [] []):=⟨fp _ _,Nat.le_refl _,World.ownsRow_nil _ _ _ _,World.ownsRow_nil _ _ _ _,fun g h=>bk0⟩;clear HAB CZ IX q0 q1 q2 q3 q4 q5;go_loopw [8,9,38] (fun v8 v9 q wr2=>∃j:Nat,q=.int .i64 j∧j≤k∧Hid (vk wA.heap.size wA wr2 v8 v9 ((lY S o (ord.take j)).map (·.1)) ((lY S o (ord.take j)).map (·.2)))) (fun _ _ q _=>k-(intOf q).toNat)
   case atStart=>exact⟨0,rfl,oX,SA⟩
   case round=>
    obtain⟨j,rfl,hj,HP⟩:=hrel;by_cases rT:j<k
    ·have hjo:j<ord.length:=(by rw[HOL.out];exact rT);obtain⟨b,off,rfl,hc⟩:=HRO.out.at j hjo;obtain⟨i,Xy⟩:∃i,i=ord.getD j 0:=⟨_,rfl⟩;have U4:ord[j]?=some i:=(by rw[Xy,yk,fv hjo];rfl);have xT:ord.take (j+1)=ord.take j++[i]:=(by rw[List.take_succ,U4];rfl);obtain⟨jj,rfl,c,hcj,hce,gm,G9⟩:=au3.out i (lf U4);rw[←Xy]at hc;have hAW:=Qp.out.below HP.out.DS;have xz:=(Below.cell HP.out.DS (p:=⟨b,off+j,none⟩) (xo _ _ hc)).trans hc;obtain⟨nb,rfl,Ws⟩:=J9.out wr (fun p hp=>(hAW.loc p (nO _ hp)).1) jj c hcj;obtain⟨q0,q1,q2,q3,q4,q5⟩:=jD hAW.head;have hjk:jj<k:=(by rw[HN.out];exact(cA hcj));rw[hce]at Ws gm G9;obtain⟨ch,bO⟩:=dC (zG o jj);rw[←bO]at Ws gm G9;have WG:=ag bO;obtain⟨l8,h8⟩:∃l,l=(lY S o (ord.take j)).map (·.1):=⟨_,rfl⟩;obtain⟨l9,h9⟩:∃l,l=(lY S o (ord.take j)).map (·.2):=⟨_,rfl⟩;have J8:l8.length≤1000∧l9.length≤1000:=(by have h1:=Ck S o (ord.take j);have h2:(ord.take j).length≤j:=bi8;rw[h8,h9,ko,ko];omega);obtain⟨Er,F6⟩:=J8;rw[←h8,←h9]at HP;obtain⟨H8,H9,HTK,HAW⟩:=ia h8 h9 xT hAW;clear hc h8 h9 xT bO hce hcj U4 Xy hAW SA;have HWS:=ag HP.out.hB;by_cases gv:cZ S ch=true
     ·have HM:Hid (∀W:World,W.heap=wr.heap→W.os=wr.os→W.tape=wr.tape→W.output=wr.output→Calls prog 138 #[.pointer (some ⟨F.al,0,none⟩),I ch] W fun e w'=>e=.returned (.bool true)∧W=w'):=fun W e1 e2 e3 e4=>by
       have:=uh (HAW.out.aI e1 e2 e3 e4) ch;rw[←gv];exact this
      have MF:=ag gv;clear gv;go_wp2_with (first|(go_at_call 138;refine(HM _ rfl rfl rfl rfl).mono ?_;rintro e w2 ⟨rfl,rfl⟩)|(at_builtin;go_loud (refine lD rfl (.tmp 51) (.tmp 53) 28 rfl wA.heap.size 3 i0 (.int .i64 0) 8 underlying28 hi fV gF gG rfl _ l8.length (l8.map I) rfl (ou (o:=.cells #[I jj] 3) HP.out.o8 rfl) ⟨wr.heap.size,0,none⟩ 1 (I jj) rfl (vZ _ _ _) rfl bj4 oX (by simp;have:=HWS.out;omega) ?_)));intro g2 hU w2 fu jV aI6;have En:=ag (HP.out.Va (o:=.cells #[I jj] 3) rfl rfl rfl rfl fu jV (aI6.imp (fun h=>⟨_,h⟩) (fun h=>br7)));have au4:=ag En.out.hB;clear fu jV aI6 HP q0 q1 q2 q3 q4 q5 xz Ws;go_wp2_with (at_builtin;go_loud (refine lD rfl (.tmp 55) (.tmp 57) 28 rfl wA.heap.size 3 i0 (.int .i64 0) 8 underlying28 hi fV gF gG rfl _ l9.length (l9.map I) rfl (ou (o:=.cells #[I ch] 3) En.out.o9 rfl) ⟨w2.heap.size,0,none⟩ 1 (I ch) rfl (vZ _ _ _) rfl bj4 oX (by simp;have:=au4.out;omega) ?_));intro g3 Oh w3 ah8 zO KI;have Eo:=ag (En.out.af1 (o:=.cells #[I ch] 3) rfl rfl rfl rfl ah8 zO (KI.imp (fun h=>⟨_,h⟩) (fun h=>br7)));clear ah8 zO KI En;have G6:Hid (vk wA.heap.size wA w3 (.slice (some ⟨g2,0,none⟩) (l8.length+1) hU) (.slice (some ⟨g3,0,none⟩) (l9.length+1) Oh) ((lY S o (ord.take (j+1))).map (·.1)) ((lY S o (ord.take (j+1))).map (·.2))):=(by have h:=Eo.out;rw[H8.out,H9.out]at h ⊢;rw[HTK.out,zH,←WG.out,aF MF.out,List.map_append,List.map_append];exact h);clear Eo;go_wp2;exact bf1
     ·have HM:Hid (∀W:World,W.heap=wr.heap→W.os=wr.os→W.tape=wr.tape→W.output=wr.output→Calls prog 138 #[.pointer (some ⟨F.al,0,none⟩),I ch] W fun e w'=>e=.returned (.bool false)∧W=w'):=fun W e1 e2 e3 e4=>by
       have:=uh (HAW.out.aI e1 e2 e3 e4) ch;rw[show cZ {S with drawn:=(fI S.list S.drawn k).2} ch=false by simpa[cZ]using gv]at this;exact this
      have MF:Hid (¬cZ S ch=true):=ag gv;clear gv;have G6:Hid (vk wA.heap.size wA wr u8 u9 ((lY S o (ord.take (j+1))).map (·.1)) ((lY S o (ord.take (j+1))).map (·.2))):=(by have h:=HP.out;rw[H8.out,H9.out]at h;rw[HTK.out,zH,←WG.out,aE MF.out,List.append_nil];exact h);have Ve:=ag (HP.out);go_wp2_with (go_at_call 138;refine(HM _ rfl rfl rfl rfl).mono ?_;rintro e w2 ⟨rfl,rfl⟩);exact bf1
    ·obtain rfl:j=k:=by omega
     rw[show ord.take j=ord by rw[←HOL.out,List.take_length]]at HP;have eM:g<S.gs.length:=cA oR;obtain⟨l8,h8⟩:∃l,l=(lY S o ord).map (·.1):=⟨_,rfl⟩;obtain⟨l9,h9⟩:∃l,l=(lY S o ord).map (·.2):=⟨_,rfl⟩;have J8:l8.length≤1000∧l9.length≤1000:=(by have h1:=Ck S o ord;have h2:=HOL.out;rw[h8,h9,ko,ko];omega);obtain⟨Er,F6⟩:=J8;rw[←h8,←h9]at HP XV;rw[←h8]at HM7;have BX:=Qp.out.below HP.out.DS;have R:=BX.bj;have RA:=Qp.out.bj;have c3:=R.eu;have l1:=R.lt R.aB.gs;have l2:=R.lt R.aB.al;have lA:=RA.lt RA.aB.gs;have fo:=R.frozen R.aB.gs (g*25+20);have co:=R.g oR 20 _ rfl;have nbx:F.gs≠w.heap.size:=BX.ne R.aB.gs;obtain⟨q0,q1,q2,q3,q4,q5⟩:=jD BX.head;have hbase:af≤wA.heap.size:=RA.eS;have FI:w.heap.size≤wA.heap.size:=Qp.out.at_.mv.size;have r8:∀gg,wA.heap.size≤gg→(∀r',m.aV r'≠some gg)∧w.heap.size≤gg:=fun gg h=>⟨RA.iT h,oX⟩
     obtain⟨a8,c8,rfl⟩:=qo HP.out.o8;obtain⟨m5,A5,hm5⟩:=At.Qe BX.at_ oR rfl (ql HP.out.o8 hbase) (fun gg G4=>r8 gg (pN HP.out.o8 G4).1);have ho9:yv wA.heap.size (wr.setCell ⟨F.gs,g*25+20,none⟩ (.slice a8 l8.length c8)) u9 l9:=vl HP.out.o9 fun gg G4 dD=>by have:=(pN HP.out.o9 G4).1;exact fQ _ _ _ _ (by show gg≠F.gs;omega)
     obtain⟨a9,c9,rfl,hr9⟩:=ho9.rd oX;have HR9:=ag hr9;have vV:=ag A5;have Bm:Hid ((wr.setCell ⟨F.gs,g*25+20,none⟩ (.slice a8 l8.length c8)).heap[w.heap.size]?=some (.cells #[I o.ai,I o.ch,I o.n,I o.v,.slice ca j cc,B o.dG] 49)∧w.heap.size<(wr.setCell ⟨F.gs,g*25+20,none⟩ (.slice a8 l8.length c8)).heap.size):=(by refine⟨(fQ _ _ _ _ (dE nbx)).trans BX.head,?_⟩;have:=(dh BX.head).1;simpa[World.setCell]using this);have HX5:Hid ((({S with drawn:=(fI S.list S.drawn j).2}:Wd).ay g {x with aH:=l8}).gs[g]?=some {x with aH:=l8}):=az oR;clear BX R RA HP SA Qp hr9 A5 r8 hm5 ho9 h8 h9 HX;have FO:Hid (S7.gs[g]?=some {x with aH:=l8,aq:=rZ l9}):=(by rw[XV.out];exact az oR);by_cases Fu:l8=[]
     ·subst Fu;have MG:=HM7.out;rw[aE sX]at MG;clear HM7
      cases XQ:o.dG with
      |true=>
       rw[XQ]at MG;rw[aF rfl]at MG;have HM9:=ag MG;clear MG;rw[XQ]at Bm;go_wp2_with (first|(go_at_call 199;refine(vW l9 l9.length rfl a9 c9 _ HR9 F6).mono ?_;rintro e w6 ⟨v72,rfl,Gl,yD⟩;obtain⟨a72,c72,rfl⟩:=qo Gl;have A6:=vV.out.heap yD;have R6:=A6.bj;have R5:=vV.out.bj;obtain⟨m7,A7⟩:=A6.zI HX5 rfl (ql Gl R5.eS) (fun gg G4=>⟨R5.iT (pN Gl G4).1,bq9⟩);have c21:=R6.g HX5 21 _ rfl;have f21:=R6.frozen R6.aB.gs (g*25+21);have c2:=R6.g HX5 2 _ rfl;have f2:=R6.frozen R6.aB.gs (g*25+2);have l61:=R6.lt R6.aB.gs;have l62:=R6.lt R6.aB.al;obtain⟨z0,z1,z2,z3,z4,z5⟩:=jD ((yD.block w.heap.size Bm.out.2).trans Bm.out.1);rw[aA,←XV.out]at A7;have WZ:=ag A7;clear A6 A7 R6 R5 Gl yD)|(go_at_call 140;refine(F7 WZ.out.bj g 2 S' HM9).mono ?_;rintro e w8 ⟨rfl,A8⟩;have HA8:=ag (WZ.out.cont A8);clear A8));go_end0;exact⟨rfl,_,HA8⟩
      |false=>
       rw[XQ]at MG;rw[aE sX]at MG;have HM9:=ag MG;clear MG;rw[XQ]at Bm;go_wp2_with (first|(go_at_call 199;refine(vW l9 l9.length rfl a9 c9 _ HR9 F6).mono ?_;rintro e w6 ⟨v72,rfl,Gl,yD⟩;obtain⟨a72,c72,rfl⟩:=qo Gl;have A6:=vV.out.heap yD;have R6:=A6.bj;have R5:=vV.out.bj;obtain⟨m7,A7⟩:=A6.zI HX5 rfl (ql Gl R5.eS) (fun gg G4=>⟨R5.iT (pN Gl G4).1,bq9⟩);have c21:=R6.g HX5 21 _ rfl;have f21:=R6.frozen R6.aB.gs (g*25+21);have c2:=R6.g HX5 2 _ rfl;have f2:=R6.frozen R6.aB.gs (g*25+2);have l61:=R6.lt R6.aB.gs;have l62:=R6.lt R6.aB.al;obtain⟨z0,z1,z2,z3,z4,z5⟩:=jD ((yD.block w.heap.size Bm.out.2).trans Bm.out.1);rw[aA,←XV.out]at A7;have WZ:=ag A7;clear A6 A7 R6 R5 Gl yD)|(go_at_call 139;refine(zC WZ.out.bj g S' HM9).mono ?_;rintro e w8 ⟨rfl,A8⟩;have HA8:=ag (WZ.out.cont A8);clear A8));go_end0;exact⟨rfl,_,HA8⟩
     ·have MG:=HM7.out;rw[aF Fu]at MG;obtain⟨xx,hxx,rfl⟩:=Nb MG;rw[FO.out]at hxx
      cases hxx;have hpos:0<l8.length:=pd Fu;clear MG HM7 Fu;go_wp2_with (go_at_call 199;refine(vW l9 l9.length rfl a9 c9 _ HR9 F6).mono ?_;rintro e w6 ⟨v72,rfl,Gl,yD⟩;obtain⟨a72,c72,rfl⟩:=qo Gl;have A6:=vV.out.heap yD;have R6:=A6.bj;have R5:=vV.out.bj;obtain⟨m7,A7⟩:=A6.zI HX5 rfl (ql Gl R5.eS) (fun gg G4=>⟨R5.iT (pN Gl G4).1,bq9⟩);have c21:=R6.g HX5 21 _ rfl;have f21:=R6.frozen R6.aB.gs (g*25+21);have c2:=R6.g HX5 2 _ rfl;have f2:=R6.frozen R6.aB.gs (g*25+2);have l61:=R6.lt R6.aB.gs;have l62:=R6.lt R6.aB.al;obtain⟨z0,z1,z2,z3,z4,z5⟩:=jD ((yD.block w.heap.size Bm.out.2).trans Bm.out.1);rw[aA,←XV.out]at A7;have WZ:=ag A7;clear A6 A7 R6 R5 Gl yD);go_end0;have A8:=WZ.out.g FO {x with aH:=l8,aq:=rZ l9,ae:=24} (q:=2) (v:=I 24)
      exact⟨rfl,_,A8⟩
section
variable(X:AB af F m0 w0 m w S L)
include X
theorem sB{g:Nat}{x:bI}(hx:S.gs[g]?=some x):Calls prog 84 #[bR F,I g] w (ee fun w'=>∃m',AB af F m0 w0 m' w' (S.ay g (bu x)) L):=
 (yE X.bj g x hx).mono fun e w' ⟨h1,m',h2⟩=>⟨h1,m',X.av h2⟩
theorem Qq(g:Nat){S':Wd}(hm:never S g=some S'):Calls prog 139 #[bR F,I g] w (ee fun w'=>AB af F m0 w0 m w' S' L):=
 (zC X.bj g S' hm).mono fun e w' ⟨h1,h2⟩=>⟨h1,X.av h2⟩
theorem W4(g:Nat)(aJ:Int){S':Wd}(hm:Nc S g aJ=some S'):Calls prog 140 #[bR F,I g,I aJ] w (ee fun w'=>AB af F m0 w0 m w' S' L):=
 (F7 X.bj g aJ S' hm).mono fun e w' ⟨h1,h2⟩=>⟨h1,X.av h2⟩
theorem sC{g:Nat}{o:cu}(dj:o.cases.length≤1000)(hl:∀v∈S.list,0≤v∧v≤65535)(h0:0≤S.drawn∧S.drawn≤100000)(ca:Option Addr)(cc:Nat)(fa:o.cases=[]∨∃nb ob,ca=some ⟨nb,0,none⟩∧(nb,ob)∈L∧CB nb ob o.cases){S':Wd}(hm:gM S g o=some S'):Calls prog 141 #[.pointer (some ⟨F.al,0,none⟩),I g,.agg #[I o.ai,I o.ch,I o.n,I o.v,.slice ca o.cases.length cc,B o.dG]] w (ee (To af F m0 w0 S')):=by
 unfold gM at hm;split at hm
 ·cases hm
 simp only[I6,bW,cI]at hm;obtain⟨cs,h1,x,hx,hm⟩:=hm;obtain⟨h2,rfl⟩:=Ji h1;rw[ke]at h2 hm;refine(vo ⟨At.refl X.bj,X.loc⟩ g x hx o dj hl h0 ca cc fa _ rfl h2 _ rfl S' ?_).mono fun e w' ⟨h3,m',h4⟩=>⟨h3,m',X.at_.cont h4⟩
 rw[I7]at hm;simpa using hm
end
section
variable(R:bz af F w m S)(g:Nat)(x:bI)(hx:S.gs[g]?=some x)(ks:0≤x.at_∧x.at_<x.ops.length)(o:cu)(ho:dH S g=o)(dj:o.cases.length≤1000)
include R g x hx ks o ho dj
theorem pw(pl:Int)(b:Bool)(gv:cZ S o.ch=b)(S':Wd)(hS:S'=S.ay g {bu x with call:=S.av,ae:=pl})(hk:(o.ai=1∧pl=20)∨(o.ai=7∧pl=20)∨(o.ai=8∧pl=20)∨(o.ai=2∧pl=4∧b=true)∨(o.ai=3∧pl=4∧b=true)∨(o.ai=6∧pl=4∧b=true)∨(o.ai=4∧pl=1∧b=true)∨(o.ai=5∧pl=1∧b=true)):Calls prog 89 #[bR F,I g] w (ee (To af F m w S')):=by
 have eM:=cA hx;have c3:=R.eu;obtain⟨a0,c0,Gm⟩:=mE R hx;have p0:=R.g0 hx;rw[Gm]at p0;have p1:=R.g hx 1 _ rfl;have cm:=R.lt R.aB.gs;have aU:=R.lt R.aB.al;obtain⟨n0,vN⟩:=dC (x.ops.length);rw[←vN]at p0;have Qr:decide ((n0:Int)≤x.at_)=false:=bi8
 have TP:=R.heap (w':=w) (fun _ _ _=>rfl);have xW:=ag R.eS;have HR:=ag (At.refl R);obtain⟨HX,HO,MF,HS⟩:=ia hx ho gv hS;rcases hk with⟨hk,rfl⟩|⟨hk,rfl⟩|⟨hk,rfl⟩|⟨hk,rfl,rfl⟩|⟨hk,rfl,rfl⟩|⟨hk,rfl,rfl⟩|⟨hk,rfl,rfl⟩|⟨hk,rfl,rfl⟩
 all_goals
  first|have jg:(o.ai==1)=false:=by rw[hk];rfl|have jg:(o.ai==1)=true:=bj1
  first|have TH:(o.ai==7)=false:=by rw[hk];rfl|have TH:(o.ai==7)=true:=bj1
  first|have TI:(o.ai==8)=false:=by rw[hk];rfl|have TI:(o.ai==8)=true:=bj1
  first|have jO:(o.ai==2)=false:=by rw[hk];rfl|have jO:(o.ai==2)=true:=bj1
  first|have sk:(o.ai==3)=false:=by rw[hk];rfl|have sk:(o.ai==3)=true:=bj1
  first|have Eu:(o.ai==4)=false:=by rw[hk];rfl|have Eu:(o.ai==4)=true:=bj1
  first|have Qs:(o.ai==5)=false:=by rw[hk];rfl|have Qs:(o.ai==5)=true:=bj1
  first|have Qt:(o.ai==6)=false:=by rw[hk];rfl|have Qt:(o.ai==6)=true:=bj1
  first|have oz:(o.ai==9)=false:=by rw[hk];rfl|have oz:(o.ai==9)=true:=bj1
  clear R hx ho hk gv hS Gm vN TP;unfold bR;go_enter func89,ntmps89;go_wp2_with fail
  go_quiet (fail);go_wp2_with (first|(go_at_call 92;refine(dw HR.out.aI g HX HO dj).mono ?_;rintro e w1 ⟨⟨cv,rfl,gE⟩,A1⟩;obtain⟨ca,cc,rfl⟩:=dm.shape gE;have iv:=ag ((AB.qn A1).alloc (eD o ca cc));clear A1 gE)|(go_at_call 84;refine(sB iv.out.aI HX).mono ?_;rintro e wN ⟨rfl,mN,X⟩;have RN:=X.bj;obtain⟨q0,q1,q2,q3,q4,q5⟩:=jD X.head;have nb1:=X.ne RN.aB.gs;have nb2:=X.ne RN.aB.al;have d3:=RN.eu;have d2:=RN.dM;have l1:=RN.lt RN.aB.gs;have l2:=RN.lt RN.aB.al;have n1:=RN.ne RN.aB.al RN.aB.gs;have n2:=n1.symm;have r5:=RN.g (az HX) 5 _ rfl;have fr5:=RN.frozen RN.aB.gs (g*25+5);have r2:=RN.g (az HX) 2 _ rfl;have Au:=RN.frozen RN.aB.gs (g*25+2);have Me:g<(S.ay g (bu x)).gs.length:=(uC (az HX)).1;have Y1:=X.g (az HX) {bu x with call:=S.av} (q:=5) (v:=I S.av);rw[aA]at Y1;have HY:=ag Y1;(first|(have Y2:=Y1.g (az HX) {bu x with call:=S.av,ae:=20} (q:=2) (v:=I 20);rw[aA,←HS.out]at Y2;have HZ:=ag Y2;clear Y2)|(have Y2:=Y1.g (az HX) {bu x with call:=S.av,ae:=4} (q:=2) (v:=I 4);rw[aA,←HS.out]at Y2;have HZ:=ag Y2;clear Y2)|(have Y2:=Y1.g (az HX) {bu x with call:=S.av,ae:=1} (q:=2) (v:=I 1);rw[aA,←HS.out]at Y2;have HZ:=ag Y2;clear Y2));clear X Y1 RN)|(go_at_call 138;refine(uh (S:=S.ay g {bu x with call:=S.av}) HY.out.aI o.ch).mono ?_;rintro e wM ⟨he,rfl⟩;rw[show cZ (S.ay g {bu x with call:=S.av}) o.ch=_ from MF.out]at he;subst he));go_end0;exact⟨rfl,_,HZ.out.at_⟩
theorem KJ(gv:cZ S o.ch=false)(S':Wd)(hS:never (S.ay g {bu x with call:=S.av}) g=some S')(hk:o.ai=2∨o.ai=3):Calls prog 89 #[bR F,I g] w (ee (To af F m w S')):=by
 have eM:=cA hx;have c3:=R.eu;obtain⟨a0,c0,Gm⟩:=mE R hx;have p0:=R.g0 hx;rw[Gm]at p0;have p1:=R.g hx 1 _ rfl;have cm:=R.lt R.aB.gs;have aU:=R.lt R.aB.al;obtain⟨n0,vN⟩:=dC (x.ops.length);rw[←vN]at p0;have Qr:decide ((n0:Int)≤x.at_)=false:=bi8
 have TP:=R.heap (w':=w) (fun _ _ _=>rfl);have xW:=ag R.eS;have HR:=ag (At.refl R);obtain⟨HX,HO,MF,HS⟩:=ia hx ho gv hS;rcases hk with hk|hk
 all_goals
  first|have jg:(o.ai==1)=false:=by rw[hk];rfl|have jg:(o.ai==1)=true:=bj1
  first|have TH:(o.ai==7)=false:=by rw[hk];rfl|have TH:(o.ai==7)=true:=bj1
  first|have TI:(o.ai==8)=false:=by rw[hk];rfl|have TI:(o.ai==8)=true:=bj1
  first|have jO:(o.ai==2)=false:=by rw[hk];rfl|have jO:(o.ai==2)=true:=bj1
  first|have sk:(o.ai==3)=false:=by rw[hk];rfl|have sk:(o.ai==3)=true:=bj1
  first|have Eu:(o.ai==4)=false:=by rw[hk];rfl|have Eu:(o.ai==4)=true:=bj1
  first|have Qs:(o.ai==5)=false:=by rw[hk];rfl|have Qs:(o.ai==5)=true:=bj1
  first|have Qt:(o.ai==6)=false:=by rw[hk];rfl|have Qt:(o.ai==6)=true:=bj1
  first|have oz:(o.ai==9)=false:=by rw[hk];rfl|have oz:(o.ai==9)=true:=bj1
  clear R hx ho hk gv hS Gm vN TP;unfold bR;go_enter func89,ntmps89;go_wp2_with fail
  go_quiet (fail);go_wp2_with (first|(go_at_call 92;refine(dw HR.out.aI g HX HO dj).mono ?_;rintro e w1 ⟨⟨cv,rfl,gE⟩,A1⟩;obtain⟨ca,cc,rfl⟩:=dm.shape gE;have iv:=ag ((AB.qn A1).alloc (eD o ca cc));clear A1 gE)|(go_at_call 84;refine(sB iv.out.aI HX).mono ?_;rintro e wN ⟨rfl,mN,X⟩;have RN:=X.bj;obtain⟨q0,q1,q2,q3,q4,q5⟩:=jD X.head;have nb1:=X.ne RN.aB.gs;have nb2:=X.ne RN.aB.al;have d3:=RN.eu;have d2:=RN.dM;have l1:=RN.lt RN.aB.gs;have l2:=RN.lt RN.aB.al;have n1:=RN.ne RN.aB.al RN.aB.gs;have n2:=n1.symm;have r5:=RN.g (az HX) 5 _ rfl;have fr5:=RN.frozen RN.aB.gs (g*25+5);have r2:=RN.g (az HX) 2 _ rfl;have Au:=RN.frozen RN.aB.gs (g*25+2);have Me:g<(S.ay g (bu x)).gs.length:=(uC (az HX)).1;have Y1:=X.g (az HX) {bu x with call:=S.av} (q:=5) (v:=I S.av);rw[aA]at Y1;have HY:=ag Y1;clear X Y1 RN)|(go_at_call 138;refine(uh (S:=S.ay g {bu x with call:=S.av}) HY.out.aI o.ch).mono ?_;rintro e wM ⟨he,rfl⟩;rw[show cZ (S.ay g {bu x with call:=S.av}) o.ch=_ from MF.out]at he;subst he)|(go_at_call 139;refine(Qq (S:=S.ay g {bu x with call:=S.av}) HY.out.aI g HS).mono ?_;rintro e wK ⟨rfl,AK⟩;have HZ:=ag AK.at_;clear AK));go_end0;exact⟨rfl,_,HZ⟩
theorem DX(cd:Int)(gv:cZ S o.ch=false)(S':Wd)(hS:Nc (S.ay g {bu x with call:=S.av}) g cd=some S')(hk:(o.ai=4∧cd=2)∨(o.ai=5∧cd=2)∨(o.ai=6∧cd=5)):Calls prog 89 #[bR F,I g] w (ee (To af F m w S')):=by
 have eM:=cA hx;have c3:=R.eu;obtain⟨a0,c0,Gm⟩:=mE R hx;have p0:=R.g0 hx;rw[Gm]at p0;have p1:=R.g hx 1 _ rfl;have cm:=R.lt R.aB.gs;have aU:=R.lt R.aB.al;obtain⟨n0,vN⟩:=dC (x.ops.length);rw[←vN]at p0;have Qr:decide ((n0:Int)≤x.at_)=false:=bi8
 have TP:=R.heap (w':=w) (fun _ _ _=>rfl);have xW:=ag R.eS;have HR:=ag (At.refl R);obtain⟨HX,HO,MF,HS⟩:=ia hx ho gv hS;rcases hk with⟨hk,rfl⟩|⟨hk,rfl⟩|⟨hk,rfl⟩
 all_goals
  first|have jg:(o.ai==1)=false:=by rw[hk];rfl|have jg:(o.ai==1)=true:=bj1
  first|have TH:(o.ai==7)=false:=by rw[hk];rfl|have TH:(o.ai==7)=true:=bj1
  first|have TI:(o.ai==8)=false:=by rw[hk];rfl|have TI:(o.ai==8)=true:=bj1
  first|have jO:(o.ai==2)=false:=by rw[hk];rfl|have jO:(o.ai==2)=true:=bj1
  first|have sk:(o.ai==3)=false:=by rw[hk];rfl|have sk:(o.ai==3)=true:=bj1
  first|have Eu:(o.ai==4)=false:=by rw[hk];rfl|have Eu:(o.ai==4)=true:=bj1
  first|have Qs:(o.ai==5)=false:=by rw[hk];rfl|have Qs:(o.ai==5)=true:=bj1
  first|have Qt:(o.ai==6)=false:=by rw[hk];rfl|have Qt:(o.ai==6)=true:=bj1
  first|have oz:(o.ai==9)=false:=by rw[hk];rfl|have oz:(o.ai==9)=true:=bj1
  clear R hx ho hk gv hS Gm vN TP;unfold bR;go_enter func89,ntmps89;go_wp2_with fail
  go_quiet (fail);go_wp2_with (first|(go_at_call 92;refine(dw HR.out.aI g HX HO dj).mono ?_;rintro e w1 ⟨⟨cv,rfl,gE⟩,A1⟩;obtain⟨ca,cc,rfl⟩:=dm.shape gE;have iv:=ag ((AB.qn A1).alloc (eD o ca cc));clear A1 gE)|(go_at_call 84;refine(sB iv.out.aI HX).mono ?_;rintro e wN ⟨rfl,mN,X⟩;have RN:=X.bj;obtain⟨q0,q1,q2,q3,q4,q5⟩:=jD X.head;have nb1:=X.ne RN.aB.gs;have nb2:=X.ne RN.aB.al;have d3:=RN.eu;have d2:=RN.dM;have l1:=RN.lt RN.aB.gs;have l2:=RN.lt RN.aB.al;have n1:=RN.ne RN.aB.al RN.aB.gs;have n2:=n1.symm;have r5:=RN.g (az HX) 5 _ rfl;have fr5:=RN.frozen RN.aB.gs (g*25+5);have r2:=RN.g (az HX) 2 _ rfl;have Au:=RN.frozen RN.aB.gs (g*25+2);have Me:g<(S.ay g (bu x)).gs.length:=(uC (az HX)).1;have Y1:=X.g (az HX) {bu x with call:=S.av} (q:=5) (v:=I S.av);rw[aA]at Y1;have HY:=ag Y1;clear X Y1 RN)|(go_at_call 138;refine(uh (S:=S.ay g {bu x with call:=S.av}) HY.out.aI o.ch).mono ?_;rintro e wM ⟨he,rfl⟩;rw[show cZ (S.ay g {bu x with call:=S.av}) o.ch=_ from MF.out]at he;subst he)|(go_at_call 140;refine(W4 (S:=S.ay g {bu x with call:=S.av}) HY.out.aI g _ HS).mono ?_;rintro e wK ⟨rfl,AK⟩;have HZ:=ag AK.at_;clear AK));go_end0;exact⟨rfl,_,HZ⟩
theorem Qu(hk:o.ai=9)(b:Bool)(gv:cZ S o.ch=b)(hl:∀v∈S.list,0≤v∧v≤65535)(h0:0≤S.drawn∧S.drawn≤100000)(S':Wd)(hS:gM (S.ay g {bu x with call:=S.av}) g o=some S')(cM:o.cases≠[]):Calls prog 89 #[bR F,I g] w (ee (To af F m w S')):=by
 have eM:=cA hx;have c3:=R.eu;obtain⟨a0,c0,Gm⟩:=mE R hx;have p0:=R.g0 hx;rw[Gm]at p0;have p1:=R.g hx 1 _ rfl;have cm:=R.lt R.aB.gs;have aU:=R.lt R.aB.al;obtain⟨n0,vN⟩:=dC (x.ops.length);rw[←vN]at p0;have Qr:decide ((n0:Int)≤x.at_)=false:=bi8
 have TP:=R.heap (w':=w) (fun _ _ _=>rfl);have jg:(o.ai==1)=false:=bj1
 have TH:(o.ai==7)=false:=bj1
 have TI:(o.ai==8)=false:=bj1
 have jO:(o.ai==2)=false:=bj1
 have sk:(o.ai==3)=false:=bj1
 have Eu:(o.ai==4)=false:=bj1
 have Qs:(o.ai==5)=false:=bj1
 have Qt:(o.ai==6)=false:=bj1
 have oz:(o.ai==9)=true:=bj1
 have xW:=ag R.eS;have HR:=ag (At.refl R);obtain⟨HX,HO,MF,HS⟩:=ia hx ho gv hS;have NA:=ag cM;have Bg:=ag R;clear R hx ho hk gv hS Gm vN TP cM;unfold bR;go_enter func89,ntmps89;go_wp2_with fail
 go_quiet (fail);go_wp2_with (first|(go_at_call 92;refine(dw HR.out.aI g HX HO dj).mono ?_;rintro e w1 ⟨⟨cv,rfl,gE⟩,A1⟩;obtain⟨nb,cc,ob,rfl,fP,XB⟩:=gE.block A1 Bg (Nat.le_refl w.heap.size) NA;have KK:=ag fP;have iv:=ag (XB.alloc (eD o (some ⟨nb,0,none⟩) cc));clear A1 gE XB fP)|(go_at_call 84;refine(sB iv.out.aI HX).mono ?_;rintro e wN ⟨rfl,mN,X⟩;have RN:=X.bj;obtain⟨q0,q1,q2,q3,q4,q5⟩:=jD X.head;have nb1:=X.ne RN.aB.gs;have nb2:=X.ne RN.aB.al;have d3:=RN.eu;have d2:=RN.dM;have l1:=RN.lt RN.aB.gs;have l2:=RN.lt RN.aB.al;have n1:=RN.ne RN.aB.al RN.aB.gs;have n2:=n1.symm;have r5:=RN.g (az HX) 5 _ rfl;have fr5:=RN.frozen RN.aB.gs (g*25+5);have r2:=RN.g (az HX) 2 _ rfl;have Au:=RN.frozen RN.aB.gs (g*25+2);have Me:g<(S.ay g (bu x)).gs.length:=(uC (az HX)).1;have Y1:=X.g (az HX) {bu x with call:=S.av} (q:=5) (v:=I S.av);rw[aA]at Y1;have HY:=ag Y1;clear X Y1 RN)|(go_at_call 138;refine(uh (S:=S.ay g {bu x with call:=S.av}) HY.out.aI o.ch).mono ?_;rintro e wM ⟨he,rfl⟩;rw[show cZ (S.ay g {bu x with call:=S.av}) o.ch=b from MF.out]at he;subst he)|(go_at_call 141;refine(sC (S:=S.ay g {bu x with call:=S.av}) HY.out.aI dj hl h0 (some ⟨nb,0,none⟩) cc (.inr ⟨nb,ob,rfl,sX,KK⟩) HS).mono ?_;rintro e wK ⟨rfl,HZ⟩));go_end0;exact⟨rfl,HZ⟩
theorem Qv(hk:o.ai=9)(b:Bool)(gv:cZ S o.ch=b)(hl:∀v∈S.list,0≤v∧v≤65535)(h0:0≤S.drawn∧S.drawn≤100000)(S':Wd)(hS:gM (S.ay g {bu x with call:=S.av}) g o=some S')(cM:o.cases=[]):Calls prog 89 #[bR F,I g] w (ee (To af F m w S')):=by
 have eM:=cA hx;have c3:=R.eu;obtain⟨a0,c0,Gm⟩:=mE R hx;have p0:=R.g0 hx;rw[Gm]at p0;have p1:=R.g hx 1 _ rfl;have cm:=R.lt R.aB.gs;have aU:=R.lt R.aB.al;obtain⟨n0,vN⟩:=dC (x.ops.length);rw[←vN]at p0;have Qr:decide ((n0:Int)≤x.at_)=false:=bi8
 have TP:=R.heap (w':=w) (fun _ _ _=>rfl);have jg:(o.ai==1)=false:=bj1
 have TH:(o.ai==7)=false:=bj1
 have TI:(o.ai==8)=false:=bj1
 have jO:(o.ai==2)=false:=bj1
 have sk:(o.ai==3)=false:=bj1
 have Eu:(o.ai==4)=false:=bj1
 have Qs:(o.ai==5)=false:=bj1
 have Qt:(o.ai==6)=false:=bj1
 have oz:(o.ai==9)=true:=bj1
 have xW:=ag R.eS;have HR:=ag (At.refl R);obtain⟨HX,HO,MF,HS⟩:=ia hx ho gv hS;have NA:=ag cM;have Bg:=ag R;clear R hx ho hk gv hS Gm vN TP cM;unfold bR;go_enter func89,ntmps89;go_wp2_with fail
 go_quiet (fail);go_wp2_with (first|(go_at_call 92;refine(dw HR.out.aI g HX HO dj).mono ?_;rintro e w1 ⟨⟨cv,rfl,gE⟩,A1⟩;obtain⟨ca,cc,rfl⟩:=dm.shape gE;have iv:=ag ((AB.qn A1).alloc (eD o ca cc));clear A1 gE)|(go_at_call 84;refine(sB iv.out.aI HX).mono ?_;rintro e wN ⟨rfl,mN,X⟩;have RN:=X.bj;obtain⟨q0,q1,q2,q3,q4,q5⟩:=jD X.head;have nb1:=X.ne RN.aB.gs;have nb2:=X.ne RN.aB.al;have d3:=RN.eu;have d2:=RN.dM;have l1:=RN.lt RN.aB.gs;have l2:=RN.lt RN.aB.al;have n1:=RN.ne RN.aB.al RN.aB.gs;have n2:=n1.symm;have r5:=RN.g (az HX) 5 _ rfl;have fr5:=RN.frozen RN.aB.gs (g*25+5);have r2:=RN.g (az HX) 2 _ rfl;have Au:=RN.frozen RN.aB.gs (g*25+2);have Me:g<(S.ay g (bu x)).gs.length:=(uC (az HX)).1;have Y1:=X.g (az HX) {bu x with call:=S.av} (q:=5) (v:=I S.av);rw[aA]at Y1;have HY:=ag Y1;clear X Y1 RN)|(go_at_call 138;refine(uh (S:=S.ay g {bu x with call:=S.av}) HY.out.aI o.ch).mono ?_;rintro e wM ⟨he,rfl⟩;rw[show cZ (S.ay g {bu x with call:=S.av}) o.ch=b from MF.out]at he;subst he)|(go_at_call 141;refine(sC (S:=S.ay g {bu x with call:=S.av}) HY.out.aI dj hl h0 ca cc (.inl NA) HS).mono ?_;rintro e wK ⟨rfl,HZ⟩));go_end0;exact⟨rfl,HZ⟩
end
end
def kj(has:Bool)(n most:Int):Bool:=if has then decide (0≤n)&&decide (n≤most)else decide (n=0)
theorem nD(has:Bool)(n most:Int)(w:World):Calls prog 194 #[B has,I n,I most] w (eL (.bool (kj has n most)) fun w'=>w=w'):=by
 go_enter func194,ntmps194
 cases has;all_goals go_wp2
 all_goals
  go_ret;refine⟨?_,rfl⟩;unfold kj;simp_all;try first|rfl|omega
theorem IU(k:Int)(w:World):Calls prog 195 #[I k] w (eL (.bool (il k)) fun w'=>w=w'):=by
 go_enter func195,ntmps195;go_wp2
 all_goals
  go_ret;refine⟨?_,rfl⟩;unfold il;simp_all;try omega
theorem Mj(k:Int)(w:World):Calls prog 196 #[I k] w (eL (.bool (kD k)) fun w'=>w=w'):=by
 go_enter func196,ntmps196;go_wp2
 all_goals
  go_ret;refine⟨?_,rfl⟩;unfold kD;by_cases h2:k=2<;>by_cases h4:k=4<;>simp_all
structure IV(o:cu):Prop where
 k:1≤o.ai∧o.ai≤9
 ch:kj (il o.ai) o.ch 8=true
 v:kj (kD o.ai) o.v 255=true
 n:kj (o.ai==1) o.n 4=true
 plain:o.ai≠9→o.cases.length=0∧o.dG=false
 cl:o.cases.length≤6
 cs:∀c∈o.cases,kj true c.ch 8=true∧kj c.cF c.v 255=true
theorem WE{o:cu}(h:yF o=true):IV o:=by
 unfold yF at h;simp only[qs,Bool.or_eq_true,decide_eq_true_eq,Bool.not_eq_true',List.all_eq_true]at h;obtain⟨⟨⟨⟨⟨⟨⟨⟨⟨⟨⟨⟨⟨h1,h2⟩,h3⟩,h4⟩,h5⟩,h6⟩,h7⟩,h8⟩,h9⟩,ph⟩,rA⟩,uQ⟩,uu⟩,Dp⟩:=h;refine⟨⟨h1,h2⟩,?_,?_,?_,fun hk=>?_,h9,fun c hc=>?_⟩
 ·unfold kj;split
  ·simp;omega
  ·rcases ph with h|h
   ·rename_i hh;exact aX h hh
   ·simp[h]
 ·unfold kj;split
  ·simp;omega
  ·rcases rA with h|h
   ·rename_i hh;exact aX h hh
   ·simp[h]
 ·unfold kj;split
  ·simp;omega
  ·rcases uQ with h|h
   ·rename_i hh;exact aX (by simp[h]) hh
   ·simp[h]
 ·rcases uu with h|⟨h,h'⟩
  ·exact aX h hk
  ·exact⟨h',h⟩
 ·have:=Dp c hc;unfold qg at this;simp only[qs,Bool.or_eq_true,decide_eq_true_eq]at this;obtain⟨⟨⟨⟨a1,a2⟩,a3⟩,a4⟩,a5⟩:=this;refine⟨by unfold kj;simp;omega,?_⟩;unfold kj;split
  ·simp;omega
  ·rcases a5 with h|h
   ·rename_i hh;exact aX h hh
   ·simp[h]
theorem Ba(o:cu)(h:IV o)(x:Option Addr)(cx:Nat)(w:World)(hc:gW w x o.cases):Calls prog 135 #[.agg #[I o.ai,I o.ch,I o.n,I o.v,.slice x o.cases.length cx,B o.dG]] w (oV (Below w.heap.size w)):=by
 obtain⟨ai,ch,n,v,rU,dG⟩:=o;obtain⟨hk,bO,hv,hn,kM,gm,fa⟩:=h;simp only at hk bO hv hn kM gm fa hc ⊢;have WG:Hid (∀w1,Calls prog 194 #[B (il ai),I ch,I 8] w1 fun e w'=>e=.returned (.bool true)∧w1=w'):=fun w1=>by rw[←bO];exact nD _ _ _ w1
 have HV:Hid (∀w1,Calls prog 194 #[B (kD ai),I v,I 255] w1 fun e w'=>e=.returned (.bool true)∧w1=w'):=fun w1=>by rw[←hv];exact nD _ _ _ w1
 have HN:Hid (∀w1,Calls prog 194 #[B (ai==1),I n,I 4] w1 fun e w'=>e=.returned (.bool true)∧w1=w'):=fun w1=>by rw[←hn];exact nD _ _ _ w1
 have aa1:Hid (∀w1,Calls prog 195 #[I ai] w1 fun e w'=>e=.returned (.bool (il ai))∧w1=w'):=fun w1=>IU ai w1
 have aa2:Hid (∀w1,Calls prog 196 #[I ai] w1 fun e w'=>e=.returned (.bool (kD ai))∧w1=w'):=fun w1=>Mj ai w1
 have XP:=ag hc;have BJ:=ag fa;obtain⟨m,hm⟩:=dC (rU.length);rw[←hm]at gm ⊢;have aa3:ai≠9→m=0∧dG=false:=by rw[hm];exact kM
 have HPL:=ag aa3;have HM:=ag hm;have jg:=hk.1;have jO:=hk.2;clear hk bO hv hn kM fa hc hm aa3;obtain⟨w1,jk⟩:=dC (w.alloc (.cells #[I ai,I ch,I n,I v,.slice x m cx,B dG] 49));obtain⟨b,hb⟩:=dC (w.heap.size);have tl:w1.heap[b]?=some (.cells #[I ai,I ch,I n,I v,.slice x m cx,B dG] 49 (0,0)):=by rw[jk,hb];exact dP _ _
 have CM:Hid (Below w.heap.size w w1):=bn1
 have x0:w1.cell? ⟨b,0,none⟩=some (I ai):=bn4
 have x1:w1.cell? ⟨b,1,none⟩=some (I ch):=bn4
 have x2:w1.cell? ⟨b,2,none⟩=some (I n):=bn4
 have x3:w1.cell? ⟨b,3,none⟩=some (I v):=bn4
 have x4:w1.cell? ⟨b,4,none⟩=some (.slice x m cx):=bn4
 have x5:w1.cell? ⟨b,5,none⟩=some (B dG):=bn4
 obtain⟨HW,IX⟩:=dA jk hb;clear jk hb tl;go_enter func135,ntmps135;go_upto_region 1 with fail
 rw[←HW.out,←IX.out];go_upto_region 4 with fail
 go_region_held3 (fun W=>W.cell? ⟨b,0,none⟩=some (I ai)∧W.cell? ⟨b,1,none⟩=some (I ch)∧W.cell? ⟨b,3,none⟩=some (I v)) (first|exact⟨x0,x1,x3⟩|go_keep)
  (first
   |(go_at_call 195;refine(aa1 _).mono ?_;rintro e w2 ⟨rfl,rfl⟩)
   |(go_at_call 196;refine(aa2 _).mono ?_;rintro e w2 ⟨rfl,rfl⟩)
   |(go_at_call 194;(first|with_reducible refine(WG.out _).mono ?_|with_reducible refine(HV.out _).mono ?_);rintro e w2 ⟨rfl,rfl⟩))
 have mq:Hid (Below w.heap.size w w1.drew):=CM.out.drew;obtain⟨w3,xY⟩:=dC (w1.drew);rw[←xY]at mq ⊢;have y0:w3.cell? ⟨b,0,none⟩=some (I ai):=by rw[xY];exact x0
 have y2:w3.cell? ⟨b,2,none⟩=some (I n):=by rw[xY];exact x2
 have y4:w3.cell? ⟨b,4,none⟩=some (.slice x m cx):=by rw[xY];exact x4
 have y5:w3.cell? ⟨b,5,none⟩=some (B dG):=by rw[xY];exact x5
 clear x0 x1 x2 x3 x4 x5 xY WG HV aa1 aa2 HW IX CM;by_cases oz:ai=9
 ·subst oz;go_upto_region 12 with(go_at_call 194;refine(HN _).mono ?_;rintro e w2 ⟨rfl,rfl⟩)
  go_wp2;go_loopw [59] (fun i wr=>∃j:Nat,i=.int .i64 j∧j≤m∧Hid (Below w.heap.size w wr)) (fun i _=>m-(intOf i).toNat)
  case atStart=>exact⟨0,rfl,oX,mq⟩
  case round=>
   clear mq y0 y2 y4 y5 HN HPL jg jO;obtain⟨j,rfl,hj,HB⟩:=hrel;by_cases dD:j<m
   ·obtain⟨c,hc⟩:∃c,rU[j]?=some c:=⟨_,fv bo5⟩;obtain⟨b2,o2,rfl,e0,e1,e2,_⟩:=(XP.out.below HB cG).2 j c hc;obtain⟨q1,q2⟩:=BJ.out c (lf hc);obtain⟨cs,cch,cv⟩:=c;simp only at e0 e1 e2 q1 q2;have Zf:Hid (∀w1,Calls prog 194 #[B true,I cch,I 8] w1 fun e w'=>e=.returned (.bool true)∧w1=w'):=fun w1=>(nD true cch 8 w1).mono (by rintro e w' ⟨he,hw⟩;exact⟨by rw[he,q1],hw⟩)
    have VD:Hid (∀w1,Calls prog 194 #[B cs,I cv,I 255] w1 fun e w'=>e=.returned (.bool true)∧w1=w'):=fun w1=>(nD cs cv 255 w1).mono (by rintro e w' ⟨he,hw⟩;exact⟨by rw[he,q2],hw⟩)
    have hs:=HB.out.size;have tK:Hid (Below w.heap.size w (wr.alloc (.cells #[B cs,I cch,I cv] 52))):=HB.out.alloc hs _;clear q1 q2 hc;go_wp2_with (go_at_call 194;(first|with_reducible refine(Zf.out _).mono ?_|with_reducible refine(VD.out _).mono ?_);rintro e w2 ⟨rfl,rfl⟩);go_roundw
    case rel=>exact⟨j+1,bl2,oX,tK⟩
    case measure=>simp[intOf];omega
   ·obtain rfl:j=m:=by omega
    go_wp2;go_ret;exact⟨rfl,HB⟩
 ·obtain⟨rfl,rfl⟩:=HPL.out oz;go_wp2_with (go_at_call 194;refine(HN _).mono ?_;rintro e w2 ⟨rfl,rfl⟩);go_ret;exact⟨rfl,mq⟩
theorem AV(la:Option Addr)(ln lc:Nat)(w:World):Calls prog 45 #[.slice la ln lc,I 0] w (eL (.agg (NC la ln lc)) (Below w.heap.size w)):=by
 go_enter func45,ntmps45;go_upto_region 1 with fail
 obtain⟨Z,hZ⟩:∃Z:Array Value,Z=#[Value.slice none 0 0,I 0,I 0,I 0,B false,I 0,B false,I 0,I 0,I 0,I 0,I 0,I 0,I 0,I 0,I 0,I 0,I 0,B false,I 0,Value.slice none 0 0,Value.slice none 0 0,Value.slice none 0 0,Value.slice none 0 0,I 0]:=⟨_,rfl⟩;obtain⟨rs,vY⟩:∃b,b=w.heap.size:=⟨_,rfl⟩;obtain⟨W0,LI⟩:∃W,W=w.alloc (.cells Z 100):=⟨_,rfl⟩;have UJ:Z.size=25:=by rw[hZ];rfl
 rw[←hZ,←vY,←LI];have hz:W0.heap[rs]?=some (.cells Z 100 (0,0)):=by rw[LI,vY];exact dP _ _
 have hb:Below w.heap.size w W0:=by rw[LI];exact(fp _ _).alloc cG _
 obtain⟨HZ,UK,HB⟩:=ij hz UJ hb;have ZW:=ag (Nat.le_of_eq vY.symm);clear hZ LI vY hz UJ hb;go_wp2_with (refine cB rfl 100 (.tmp 4) (.tmp 8) rfl rs 0 (NC la ln lc) rfl rfl (by rw[fE];rfl) (fun j hj=>by rw[cr _ _ _ _ _ _ HZ.out,Nat.zero_add,xL (by rw[UK.out];exact hj)];rfl) (fun j hj=>iM _ _ _ _ _ HZ) bi9 ?_);have iw:=dI (cs:=(NC la ln lc)) HZ (by rw[UK.out];rfl);refine bodyPost_ret (lN rfl _ _ rs (NC la ln lc) 100 (0,0) mC (by rw[fE];rfl) rfl iw) rfl ?_;exact⟨rfl,Below.setCells ZW _ _ _ HB⟩
theorem tZ{fn:Func}{p q:Tmp}{ty:TypeId}(h:fn.results=#[.cell p ty,.tmp q])(tmps:Array Value)(w:World)(b:Nat)(cs:Array Value)(t:TypeId)(fr:Nat×Nat)(hu:∃d,prog.underlying ty=some d∧(match d with| .struct _| .array _ _=>true|_=>false)=true)(hi:(prog.info? ty).map (·.size)=some cs.size)(hp:tmps.getD p undef=.pointer (some ⟨b,0,none⟩))(hg:w.heap[b]?=some (.cells cs t fr)):(results fn tmps).run prog w=.ok (.tuple #[.agg cs,tmps.getD q undef]) w:=by
 exact aX6
inductive RK|st|gs|ca|su|cf|rs deriving DecidableEq
def L9:RK→Option (Nat×Nat)
 | .gs=>some (100,25)
 | .ca=>some (28,1)
 | .su=>some (105,7)
 | .rs=>some (41,12)
 |_=>none
def iy(lo:Nat)(w0 wr:World)(sb cb rb:Nat)(x y:Int)(D vg vs vc:Value)(ng ns nc:Nat):Prop:=
 ∃aV cap ct,cN lo w0 wr aV L9 cap ct∧aV .st=some sb∧aV .cf=some cb∧(aV .rs=some rb∧cap .rs=1)∧ct .cf=[I x,I y]∧(ct .rs).length=12∧
  ct .st=[I x,I y,I 0,vg,.slice none 0 0,vs,vc,.slice none 0 0,I 0,D,I 0,.slice none 0 0]∧
  vg=nG (aV .gs) ng (cap .gs)∧vs=nG (aV .su) ns (cap .su)∧vc=nG (aV .ca) nc (cap .ca)∧(ct .gs).length=ng*25∧(ct .su).length=ns*7∧(ct .ca).length=nc*1
section
variable{lo:Nat}{w0 wr w':World}{sb cb rb:Nat}{x y:Int}{D vg vs vc:Value}{ng ns nc:Nat}
theorem iy.eC(H:iy lo w0 wr sb cb rb x y D vg vs vc ng ns nc)(hb:Below wr.heap.size wr w'):iy lo w0 w' sb cb rb x y D vg vs vc ng ns nc:=by
 obtain⟨aV,cap,ct,O,h⟩:=H;exact⟨aV,cap,ct,O.eC hb,h⟩
theorem iy.alloc(H:iy lo w0 wr sb cb rb x y D vg vs vc ng ns nc)(o:Obj):iy lo w0 (wr.alloc o) sb cb rb x y D vg vs vc ng ns nc:=H.eC ((fp _ _).alloc cG o)
section
variable(H:iy lo w0 wr sb cb rb x y D vg vs vc ng ns nc)
include H
theorem iy.uw:Below lo w0 wr∧lo≤wr.heap.size:=by
 obtain⟨aV,cap,ct,O,h⟩:=H;exact⟨O.below,O.tL⟩
theorem iy.cells:(∀(j:Nat) v,[I x,I y,I 0,vg,.slice none 0 0,vs,vc,.slice none 0 0,I 0,D,I 0,.slice none 0 0][j]?=some v→wr.cell? ⟨sb,j,none⟩=some v)∧(∀j,wr.frozen? ⟨sb,j,none⟩=false)∧sb<wr.heap.size∧wr.cell? ⟨cb,0,none⟩=some (I x)∧wr.cell? ⟨cb,1,none⟩=some (I y)∧cb<wr.heap.size:=by
 obtain⟨aV,cap,ct,O,h1,h2,h3,h4,h5,h6,h7⟩:=H;exact⟨fun j v hv=>O.cell h1 (by rw[h6];exact hv),fun j=>O.frozen h1 j,O.lt h1,O.cell h2 (by rw[h4];rfl),O.cell h2 (by rw[h4];rfl),O.lt h2⟩
theorem iy.res:(∃Z t,Z.size=12∧wr.heap[rb]?=some (.cells Z t (0,0)))∧lo≤rb:=by
 obtain⟨aV,cap,ct,O,h1,h2,h3,h4,h5,h6,h7⟩:=H;obtain⟨h0,arr,t,g1,g2,g3,g4⟩:=O.lies _ _ h3.1;exact⟨⟨arr,t,by have:=(g4 _ rfl).2.1;rw[h3.2]at this;exact this,g1⟩,h0⟩
end
theorem IK{aV:RK→Option Nat}{cap:RK→Nat}{ct:RK→List Value}(O:cN lo w0 wr aV L9 cap ct){r:RK}(hr:r≠ .st)(h1:aV .st=some sb)(n:Nat):(nG (aV r) n (cap r)).ownBlock≠some sb:=fun e=>by
 rw[gV]at e;exact hr (O.inj _ _ _ e h1)
theorem iy.gs(H:iy lo w0 wr sb cb rb x y D vg vs vc ng ns nc):∃xs,wr.ownsRow lo 100 25 vg ng xs∧vg.ownBlock≠some sb∧(xs.length=ng*25)∧(∀(w':World) (g cp:Nat) (us:List Value),us.length=25→(wr.alloc (.cells us.toArray 100)).grownBy w' vg.ownBlock→w'.ownsRow lo 100 25 (.slice (some ⟨g,0,none⟩) (ng+1) cp) (ng+1) (xs++us)→(vg.ownBlock=some g∨(wr.alloc (.cells us.toArray 100)).heap.size≤g)→iy lo w0 (w'.setCell ⟨sb,3,none⟩ (.slice (some ⟨g,0,none⟩) (ng+1) cp)) sb cb rb x y D (.slice (some ⟨g,0,none⟩) (ng+1) cp) vs vc (ng+1) ns nc):=by
 obtain⟨aV,cap,ct,O,h1,h2,h3,h4,h5,h6,rfl,rfl,rfl,l1,l2,l3⟩:=H;refine⟨ct .gs,O.owns (k:=.gs) (p:=(100,25)) rfl dX l1,IK O sX h1 _,l1,fun w' g cp us hu hg hown gp=>?_⟩;rw[gV]at hg gp;have O2:=((O.alloc (.cells us.toArray 100)).row (r:=.gs) (p:=(100,25)) (fun q h=>bq4) hg hown gp).set (r:=.st) (b:=sb) (j:=3) (v:=.slice (some ⟨g,0,none⟩) (ng+1) cp) bw6;refine⟨_,_,_,O2,?_,?_,?_,?_,?_,?_,?_,?_,?_,?_,?_,?_⟩<;>simp only[up,aF,aE,reduceCtorEq,dt,dF,and_self,h1,h2,h3,h4,h5,h6,l2,l3,py,l1,hu,List.set_cons_succ,List.set_cons_zero]
 ·simp[nG]
 ·omega
theorem iy.su(H:iy lo w0 wr sb cb rb x y D vg vs vc ng ns nc):∃xs,wr.ownsRow lo 105 7 vs ns xs∧vs.ownBlock≠some sb∧(xs.length=ns*7)∧(∀(w':World) (g cp:Nat) (us:List Value),us.length=7→(wr.alloc (.cells us.toArray 105)).grownBy w' vs.ownBlock→w'.ownsRow lo 105 7 (.slice (some ⟨g,0,none⟩) (ns+1) cp) (ns+1) (xs++us)→(vs.ownBlock=some g∨(wr.alloc (.cells us.toArray 105)).heap.size≤g)→iy lo w0 (w'.setCell ⟨sb,5,none⟩ (.slice (some ⟨g,0,none⟩) (ns+1) cp)) sb cb rb x y D vg (.slice (some ⟨g,0,none⟩) (ns+1) cp) vc ng (ns+1) nc):=by
 obtain⟨aV,cap,ct,O,h1,h2,h3,h4,h5,h6,rfl,rfl,rfl,l1,l2,l3⟩:=H;refine⟨ct .su,O.owns (k:=.su) (p:=(105,7)) rfl dX l2,IK O sX h1 _,l2,fun w' g cp us hu hg hown gp=>?_⟩;rw[gV]at hg gp;have O2:=((O.alloc (.cells us.toArray 105)).row (r:=.su) (p:=(105,7)) (fun q h=>bq4) hg hown gp).set (r:=.st) (b:=sb) (j:=5) (v:=.slice (some ⟨g,0,none⟩) (ns+1) cp) bw6;refine⟨_,_,_,O2,?_,?_,?_,?_,?_,?_,?_,?_,?_,?_,?_,?_⟩<;>simp only[up,aF,aE,reduceCtorEq,dt,dF,and_self,h1,h2,h3,h4,h5,h6,l1,l3,py,l2,hu,List.set_cons_succ,List.set_cons_zero]
 ·simp[nG]
 ·omega
theorem iy.ca(H:iy lo w0 wr sb cb rb x y D vg vs vc ng ns nc):∃xs,wr.ownsRow lo 28 1 vc nc xs∧vc.ownBlock≠some sb∧(xs.length=nc*1)∧(∀(w':World) (g cp:Nat) (us:List Value),us.length=1→(wr.alloc (.cells us.toArray 28)).grownBy w' vc.ownBlock→w'.ownsRow lo 28 1 (.slice (some ⟨g,0,none⟩) (nc+1) cp) (nc+1) (xs++us)→(vc.ownBlock=some g∨(wr.alloc (.cells us.toArray 28)).heap.size≤g)→iy lo w0 (w'.setCell ⟨sb,6,none⟩ (.slice (some ⟨g,0,none⟩) (nc+1) cp)) sb cb rb x y D vg vs (.slice (some ⟨g,0,none⟩) (nc+1) cp) ng ns (nc+1)):=by
 obtain⟨aV,cap,ct,O,h1,h2,h3,h4,h5,h6,rfl,rfl,rfl,l1,l2,l3⟩:=H;refine⟨ct .ca,O.owns (k:=.ca) (p:=(28,1)) rfl dX l3,IK O sX h1 _,l3,fun w' g cp us hu hg hown gp=>?_⟩;rw[gV]at hg gp;have O2:=((O.alloc (.cells us.toArray 28)).row (r:=.ca) (p:=(28,1)) (fun q h=>bq4) hg hown gp).set (r:=.st) (b:=sb) (j:=6) (v:=.slice (some ⟨g,0,none⟩) (nc+1) cp) bw6;refine⟨_,_,_,O2,?_,?_,?_,?_,?_,?_,?_,?_,?_,?_,?_,?_⟩<;>simp only[up,aF,aE,reduceCtorEq,dt,dF,and_self,h1,h2,h3,h4,h5,h6,l1,l2,py,l3,hu,List.set_cons_succ,List.set_cons_zero]
 ·simp[nG]
 ·omega
theorem iy.gs2{xs:List Value}{us:Array Value}{g cp:Nat}(H:iy lo w0 wr sb cb rb x y D vg vs vc ng ns nc)(hu:us.size=25)(hp:xs.length=ng*25∧(∀(w':World) (g cp:Nat) (us:List Value),us.length=25→(wr.alloc (.cells us.toArray 100)).grownBy w' vg.ownBlock→w'.ownsRow lo 100 25 (.slice (some ⟨g,0,none⟩) (ng+1) cp) (ng+1) (xs++us)→(vg.ownBlock=some g∨(wr.alloc (.cells us.toArray 100)).heap.size≤g)→iy lo w0 (w'.setCell ⟨sb,3,none⟩ (.slice (some ⟨g,0,none⟩) (ng+1) cp)) sb cb rb x y D (.slice (some ⟨g,0,none⟩) (ng+1) cp) vs vc (ng+1) ns nc))(h:w'.ownsRow lo 100 25 (.slice (some ⟨g,0,none⟩) (ng+1) cp) (ng+1) (xs++us.toList)∧(wr.alloc (.cells us 100)).grownBy w' vg.ownBlock∧(vg.ownBlock=some g∨(wr.alloc (.cells us 100)).heap.size≤g)):iy lo w0 (w'.setCell ⟨sb,3,none⟩ (.slice (some ⟨g,0,none⟩) (ng+1) cp)) sb cb rb x y D (.slice (some ⟨g,0,none⟩) (ng+1) cp) vs vc (ng+1) ns nc:=
 hp.2 w' g cp us.toList (by simpa using hu) h.2.1 h.1 h.2.2
end
namespace V
def cost(o:cu):Nat:=24+16*o.cases.length
def aH7(l:List cu):Nat:=(l.map cost).sum
def loP(p q l k:Nat):Nat:=
 let e:=2*l+2*q
 match p with
 |1=>17+e|2=>16+e|3=>15+e|4=>14+e|5=>13+e|6=>12+e|7=>11+e|8=>4+e|9=>11+e|10=>10+e|11=>9+e|12=>5+e|13=>4+e|14=>3+e
 |15=>2|16=>2|17=>1|18=>1|20=>2|21=>5|22=>4|23=>3
 |24=>(l-k)+6*q+l+6+e|25=>(q-k)+5*q+l+6+e|26=>(q-k)+5*q+l+5+e|27=>l+7+e|28=>(q-k)+4*q+l+5+e|29=>4*(q-k)+l+5+e|30=>k+5+e
 |31=>(l-k)+l+2*q+2|32=>(q-k)+l+q+2|33=>k+q+2|34=>(q-k)+2
 |_=>0
def Yu(x:bI):Nat:=(if x.ae=0 then aH7 (x.ops.drop x.at_.toNat)else aH7 (x.ops.drop (x.at_.toNat+1))+loP x.ae.toNat x.aH.length x.aq.length x.k.toNat)+x.wakes.length
def Rn(b:List (Int×Bool)):Nat:=(b.map fun s=>if s.1=2 then 0 else 1).sum
def Xr(q:bf):Nat:=(q.bM.map fun l=>l.count.toNat).sum
def work(w:Wd):Nat:=(w.gs.map Yu).sum+Rn w.ax+3*Xr w.aw
def clo(w:Wd)(c:Int):Prop:=idx w.aO (c-1)=some true
def aH4(x:bI)(c:Int):Prop:=(x.ae=22∨x.ae=23)∧(aP x).ch=c
def aH0(x:bI)(c:Int):Prop:=
 ((aP x).ai=2∧6≤x.ae∧x.ae≤11∨(aP x).ai=3∧(6≤x.ae∧x.ae≤8∨x.ae=10∨x.ae=11))∧c=(aP x).ch∨
 (aP x).ai=9∧25≤x.ae∧x.ae≤29∧∃(j:Nat) (i:Int) (cs:Case),x.aH[j]?=some i∧(aP x).cases[i.toNat]?=some cs∧cs.ch=c∧(28≤x.ae∨(j:Int)<x.k)
def aw0(x:bI):Prop:=((aP x).ai=2∨(aP x).ai=3)∧(12≤x.ae∧x.ae≤15∨x.ae=18)∨(aP x).ai=9∧(x.ae=30∧x.res.aJ=0∨x.ae=13∨x.ae=14∨31≤x.ae∨x.ae=17∨x.ae=18)
def aI3(x:bI):Prop:=(aP x).ai≠9∧15≤x.ae∧x.ae≤18∨(aP x).ai=9∧(31≤x.ae∨x.ae=17∨x.ae=18)
def aS2(o:cu)(f:Int)(c:Case):Prop:=(o.ai=2∨o.ai=3)∧f= -1∧c.cF=decide (o.ai=2)∧c.ch=o.ch∨o.ai=9∧0≤f∧o.cases[f.toNat]?=some c
def aS3(aO:List Bool)(o:cu)(f:Int)(r:nP):Prop:=∃c,aS2 o f c∧idx aO (c.ch-1)=some true∧(c.cF=true→r.aJ=3)∧(c.cF=false→r.aJ=1∧r.ok=false∧r.v=0)
structure G2(w:Wd)(x:bI):Prop where
 nc:∀c,aH0 x c→¬clo w c
 eU:(aP x).ai=3→x.ae=9→clo w (aP x).ch→∃r,w.au[((aP x).ch-1).toNat]?=some r∧0<r.count
 early:x.bJ≠0→aw0 x
 late:x.bJ≠0→aI3 x→0≤x.bF∨aS3 w.aO (aP x) x.fire x.res
 par:∀s:Nat,x.aN=s→0≤x.bF∨∃sd,w.ah[s]?=some sd∧sd.done=false∧clo w sd.ch
 cl:∀c,aH4 x c→clo w c
def aT3(w:Wd)(m:Ex):Prop:=m.bJ≠0→m.bF<0→∃(g j:Nat) (l:List cu) (o:cu),m.g=g∧m.op=j∧(w.gs.map (·.ops))[g]?=some l∧l[j]?=some o∧aS3 w.aO o m.fire m.res
structure Inv2(w:Wd):Prop where
 g2:∀(g:Nat) x,w.gs[g]?=some x→G2 w x
 a4:∀(g:Nat) x (s z:Nat) sd y,w.gs[g]?=some x→aT x→x.br=s→w.ah[s]?=some sd→sd.g=z→w.gs[z]?=some y→0≤y.bF
 dr:∀c,clo w c→w.aw.len (2*c-2)≤0∧w.aw.len (2*c-1)≤0∨∃(g:Nat) (x:bI),w.gs[g]?=some x∧aH4 x c
 mks:∀m∈w.done,aT3 w m
def core(x:bI):bI:={x with bF:=0,fire:=0,aN:=0,bk:=false,point:=0}
structure aL2(w':Wd)(y y':bI):Prop where
 core:core y'=core y
 bF:y'.bF=y.bF∨0≤y'.bF
 fire:y'.fire=y.fire∨aW y
 par:y'.aN=y.aN∨∀s:Nat,y'.aN=s→0≤y'.bF∨∃sd,w'.ah[s]?=some sd∧sd.done=false∧clo w' sd.ch
structure Eff(w w':Wd)(g:Nat)(x x':bI):Prop where
 me:w'.gs[g]?=some x'
 len:w'.gs.length=w.gs.length
 N7:∀(j:Nat) y',j≠g→w'.gs[j]?=some y'→∃y,w.gs[j]?=some y∧aL2 w' y y'
 ops:x'.ops=x.ops
 c1:∀c,clo w c→clo w' c
 c2:∀c,clo w' c→clo w c∨aL x c∧aH4 x' c
 q:∀k:Int,w'.aw.len k≤w.aw.len k∨¬clo w' (k / 2+1)
 dr:∀c,aH4 x c→aH4 x' c∨w'.aw.len (2*c-2)≤0∧w'.aw.len (2*c-1)≤0
 r:∀(c:Nat) r,w.au[c]?=some r→w'.au[c]?=some r∨aL x ((c:Int)+1)
 s1:∀(j:Nat) y (s:Nat) sd,j≠g→w.gs[j]?=some y→y.aN=(s:Int)→w.ah[s]?=some sd→w'.ah[s]?=some sd
 s2:∀(s:Nat) sd,w.ah[s]?=some sd→sd.cK=true→sd.g≠g∨aW x→∃sd',w'.ah[s]?=some sd'∧sd'.g=sd.g
 wi:x'.bF=x.bF∨0≤x'.bF∨¬aW x
 a4:aT x'→∀(s z:Nat) sd y,x'.br=s→w'.ah[s]?=some sd→sd.g=z→w'.gs[z]?=some y→0≤y.bF
 mks:∀m∈w'.done,m∈w.done∨aT3 w' m
 g2:G2 w' x'
 Yu:Yu x'+Rn w'.ax+3*Xr w'.aw+1≤Yu x+Rn w.ax+3*Xr w.aw
theorem aK3{α:Type}(f:α→Nat):∀{l l':List α} {g:Nat} {a b:α},l'.length=l.length→l[g]?=some a→l'[g]?=some b→(∀(j:Nat) y',j≠g→l'[j]?=some y'→∃y,l[j]?=some y∧f y'=f y)→(l'.map f).sum+f a=(l.map f).sum+f b
 | [],l',g,a,b,_,ha,_,_=>by simp at ha
 |u::l,[],g,a,b,hl,_,hb,_=>by simp at hb
 |u::l,v::l',0,a,b,hl,ha,hb,h=>by
  simp only[List.getElem?_cons_zero,oZ]at ha hb;subst ha hb
  have e:l'.map f=l.map f:=by
   apply List.ext_getElem?;intro j;rw[na,na];simp only[sV]at hl;rcases Nat.lt_or_ge j l'.length with hj|hj
   ·obtain⟨y,h1,h2⟩:=h (j+1) l'[j] oX (by simp[fv hj]);rw[List.getElem?_cons_succ]at h1;rw[h1,fv hj];simp[h2]
   ·rw[rq hj,rq oX]
  simp only[List.map_cons,List.sum_cons,e];omega
 |u::l,v::l',g+1,a,b,hl,ha,hb,h=>by
  simp only[List.getElem?_cons_succ,sV]at ha hb hl;have ih:=aK3 f (l:=l) (l':=l') (g:=g) oX ha hb fun j y' hj hy=>h (j+1) y' oX (by simpa using hy)
  obtain⟨y,h1,h2⟩:=h 0 v oX sX;simp only[List.getElem?_cons_zero,oZ]at h1;simp only[List.map_cons,List.sum_cons,h2,h1];omega
section
variable{w w' w2:Wd}{ls:List (List Nat)}{g z s C:Nat}{x x' xA y y':bI}{sd:gn}{o:cu}
theorem aO1(x:bI):Yu (core x)=Yu x:=rfl
theorem aS4(x:bI):aP (core x)=aP x:=rfl
theorem aL2.refl(w':Wd)(y:bI):aL2 w' y y:=⟨rfl,.inl rfl,.inl rfl,.inl rfl⟩
theorem aU2{c:Int}(h:clo w c):1≤c∧c≤w.aO.length:=by
 unfold clo idx at h;split at h
 ·have:=cA h;omega
 ·cases h
theorem aS5(I:Inv w ls)(hx:w.gs[g]?=some x){c:Int}(h:aH0 x c):aL x c∧1≤c∧c≤w.au.length:=by
 have L:=I.loc g x hx;rcases h with⟨h,rfl⟩|⟨h9,h1,h2,j,i,cs,h3,h4,rfl,h5⟩
 ·refine⟨?_,L.cZ oX oX oX oX oX⟩;unfold aL cH;rw[aE oX];exact⟨oX,rfl⟩
 ·obtain⟨s1,s2,s3⟩:=L.oW h9 oX oX oX oX;obtain⟨h0,c',hc,a1,a2,a3⟩:=s1.ord i (lf h3);rw[h4]at hc;cases hc;exact⟨KA h9 oX a3,a1,a2⟩
theorem G2.N7(I:Inv w ls)(hx:w.gs[g]?=some x)(E:Eff w w' g x x'){j:Nat}(hj:j≠g)(hy:w.gs[j]?=some y)(O:aL2 w' y y')(G:G2 w y):G2 w' y':=by
 have hc:∀c,aL y c→1≤c∧c≤w.au.length→¬aL x c:=fun c h1 h2 h3=>hj (I.lock.one hy hx h1 h3 (Pd I h2))
 have e:∀{β:Type} (f:bI→β),(∀x,f (core x)=f x)→f y'=f y:=fun f hf=>by rw[←hf y',O.core,hf]
 have eg:=e aP aS4;have ep:=e bI.ae (fun _=>rfl);have ea:=e bI.bJ (fun _=>rfl);have er:=e bI.res (fun _=>rfl);refine⟨fun c h=>?_,fun hk hp gm=>?_,fun ha=>?_,fun ha hw=>?_,fun s hs=>?_,fun c h=>E.c1 c (G.cl c ((e (fun x=>aH4 x c) (fun _=>rfl))▸h))⟩
 ·have h':aH0 y c:=by have:=e (fun x=>aH0 x c) (fun _=>rfl);exact this▸h
  obtain⟨a,b⟩:=aS5 I hy h';intro gm;rcases E.c2 c gm with h1|⟨h1,_⟩
  ·exact G.nc c h' h1
  ·exact hc c a b h1
 ·rw[eg]at hk gm ⊢;rw[ep]at hp;have hm:=(I.loc j y hy).cZ oX oX oX oX oX;have hh:aL y (aP y).ch:=by unfold aL cH;rw[aE oX];exact⟨oX,rfl⟩
  rcases E.c2 _ gm with h1|⟨h1,_⟩
  ·obtain⟨r,a,b⟩:=G.eU hk hp h1;rcases E.r _ r a with a|a
   ·exact⟨r,a,b⟩
   ·rw[show((((aP y).ch-1).toNat:Int)+1)=(aP y).ch by omega]at a;exact aX a (hc _ hh hm)
  ·exact aX h1 (hc _ hh hm)
 ·rw[ea]at ha;have:=e aw0 (fun _=>rfl);rw[this];exact G.early ha
 ·rw[ea]at ha;have hw:aI3 y:=by have:=e aI3 (fun _=>rfl);rw[this]at hw;exact hw
  have oN:¬aW y:=by unfold aW aI3 at*;omega
  rcases G.late ha hw with h|⟨c,h1,h2,h3⟩
  ·left;rcases O.bF with h'|h'<;>omega
  ·right;rw[eg,er];rcases O.fire with h'|h'
   ·rw[h'];exact⟨c,h1,E.c1 _ h2,h3⟩
   ·exact aX h' oN
 ·rcases O.par with h|h
  ·rw[h]at hs;rcases G.par s hs with h|⟨sd,a,b,c⟩
   ·left;rcases O.bF with h'|h'<;>omega
   ·exact .inr ⟨sd,E.s1 j y s sd hj hy hs a,b,E.c1 _ c⟩
  ·exact h s hs
theorem Eff.fin(I:Inv w ls)(J:Inv2 w)(hx:w.gs[g]?=some x)(E:Eff w w' g x x'):Inv2 w'∧work w'+1≤work w:=by
 have aV2:w'.gs.map (·.ops)=w.gs.map (·.ops):=by
  apply List.ext_getElem?;intro j;rw[na,na];by_cases hj:j=g
  ·rw[hj,hx,E.me];simp[E.ops]
  ·rcases Nat.lt_or_ge j w'.gs.length with h|h
   ·obtain⟨y,a,b⟩:=E.N7 j w'.gs[j] hj (fv h);rw[a,fv h];have t:(core w'.gs[j]).ops=(core y).ops:=congrArg bI.ops b.core;exact congrArg some t
   ·have:=E.len;rw[rq h,rq oX]
 refine⟨⟨fun j y' uO=>?_,fun j u' s z sd' y' Nw gm hh hs hz uO=>?_,fun c hc=>?_,fun m hm=>?_⟩,?_⟩
 ·by_cases hj:j=g
  ·rw[hj,E.me]at uO;cases uO;exact E.g2
  ·obtain⟨y,a,b⟩:=E.N7 j y' hj uO;exact(J.g2 j y a).N7 I hx E hj a b
 ·by_cases hj:j=g
  ·rw[hj,E.me]at Nw;cases Nw;exact E.a4 gm s z sd' y' hh hs hz uO
  ·obtain⟨u,a,b⟩:=E.N7 j u' hj Nw
   have gm:aT u:=by
                have:aT (core u')=aT (core u):=by rw[b.core]
                exact this.mp gm
   have hh:u.br=s:=(by have:=congrArg bI.br b.core;exact this.symm.trans hh);obtain⟨s0,z0,sd,y,a1,a2,a3,a4,a5,a6,a7,a8,a9,_⟩:=I.claim j u a gm;obtain rfl:s0=s:=oX
   obtain⟨AU,b1,b2⟩:=E.s2 s0 sd a2 a3 (by
    by_cases hz:z0=g
    ·right;subst hz;rw[hx]at a6;cases a6;exact a8
    ·left;omega)
   rw[hs]at b1;cases b1;obtain rfl:z0=z:=oX
   have hw:=J.a4 j u s0 z0 sd y a gm hh a2 a4 a6;by_cases hz:z0=g
   ·subst hz;rw[hx]at a6;cases a6;rw[E.me]at uO;cases uO;rcases E.wi with h|h|h
    ·omega
    ·exact h
    ·exact aX a8 h
   ·obtain⟨y2,c1,c2⟩:=E.N7 z0 y' hz uO;rw[a6]at c1;cases c1;rcases c2.bF with h|h<;>omega
 ·rcases E.c2 c hc with h|⟨_,h⟩
  ·have hq1:=E.q (2*c-2);have hq2:=E.q (2*c-1);rw[show(2*c-2) / 2+1=c by omega]at hq1;rw[show(2*c-1) / 2+1=c by omega]at hq2;rcases J.dr c h with⟨d1,d2⟩|⟨j,y,d1,d2⟩
   ·left;rcases hq1 with q1|q1
    ·rcases hq2 with q2|q2
     ·omega
     ·exact aX hc q2
    ·exact aX hc q1
   ·by_cases hj:j=g
    ·rw[hj,hx]at d1;cases d1;rcases E.dr c d2 with h|h
     ·exact .inr ⟨g,x',E.me,h⟩
     ·exact .inl h
    ·right;have dD:=cA d1;have hl:=E.len;have uO:w'.gs[j]?=some (w'.gs[j]' oX):=fv oX;obtain⟨y2,c1,c2⟩:=E.N7 j _ hj uO;rw[d1]at c1;cases c1;refine⟨j,_,uO,?_⟩;have:aH4 (core _) c=aH4 (core _) c:=congrArg (aH4 · c) c2.core;exact this.mpr d2
  ·exact .inr ⟨g,x',E.me,h⟩
 ·rcases E.mks m hm with h|h
  ·intro ha hw;obtain⟨g',j,l,o,h1,h2,h3,h4,c,h5,h6,h7⟩:=J.mks m h ha hw;exact⟨g',j,l,o,h1,h2,by rw[aV2];exact h3,h4,c,h5,E.c1 _ h6,h7⟩
  ·exact h
 ·have h1:=aK3 V.Yu E.len hx E.me fun j y' hj hy=>by
   obtain⟨y,a,b⟩:=E.N7 j y' hj hy;exact⟨y,a,by rw[←aO1 y',b.core,aO1]⟩
  have h2:=E.Yu;unfold work;omega
end
section
variable{w w' w2:Wd}{ls:List (List Nat)}{g z s C:Nat}{x x' xA y y':bI}{sd:gn}{o:cu}{q q':bf}
theorem xQ.Xr(Q:xQ q ls):Xr q=(ls.map List.length).sum:=by
 have e:q.bM.map (fun l=>l.count.toNat)=ls.map List.length:=by
  apply List.ext_getElem?;intro k;rw[na,na]
  cases hl:ls[k]? with
  |none=>
   have:=List.getElem?_eq_none_iff.1 hl;rw[rq (by rw[Q.len];exact this)];rfl
  |some l=>rw[Q.line k l hl];simp
 unfold V.Xr;rw[e]
theorem aJ9(s:Nat):∀ls:List (List Nat),((ls.map (·.erase s)).map List.length).sum≤(ls.map List.length).sum∧(∀(k:Nat) l,ls[k]?=some l→s∈l→((ls.map (·.erase s)).map List.length).sum+1≤(ls.map List.length).sum)
 | []=>⟨Nat.le_refl _,fun k l h=>bj5⟩
 |m::ls=>by
  obtain⟨a,b⟩:=aJ9 s ls;have h1:(m.erase s).length≤m.length:=List.erase_sublist.length_le;simp only[List.map_cons,List.sum_cons];refine⟨oX,fun k l h hm=>?_⟩
  cases k with
  |zero=>
   simp only[List.getElem?_cons_zero,oZ]at h;subst h;have h2:=List.length_erase_of_mem hm;have h3:=List.length_pos_of_mem hm;omega
  |succ k=>have:=b k l bj3 hm;omega
theorem aJ2(I:Inv w ls)(hs:s<w.ah.length)(e:w2.aw=w.aw)(h:fZ w2 s=some w'):∃q',w'={w2 with aw:=q'}∧(∀k:Int,q'.len k≤w.aw.len k)∧Xr q'≤Xr w.aw∧∀(k:Nat) l,ls[k]?=some l→s∈l→Xr q'+1≤Xr w.aw:=by
 have N5:=I.aS;have h64:=I.JZ;obtain⟨q',ok,a,b,c⟩:=I.q.drop (x:=s) oX oX;unfold fZ at h;rw[e,a]at h
 cases h;have hE:=aJ9 s ls;refine⟨q',rfl,fun k=>?_,?_,fun k l h1 h2=>?_⟩
 ·by_cases hk:0≤k
  ·obtain⟨n,rfl⟩:=pz hk;rw[I.q.aS1,b.aS1];exact bb2
  ·unfold bf.len idx;rw[aE hk,aE hk];simp
 ·rw[I.q.Xr,b.Xr];exact hE.1
 ·rw[I.q.Xr,b.Xr];exact hE.2 k l h1 h2
theorem aO2{k:Int}{l l':Ct}(h:q'.bM=q.bM.set k.toNat l')(hl:idx q.bM k=some l)(hc:l'.count=l.count+1):(∀k':Int,q'.len k'≤q.len k'∨k'=k)∧Xr q'≤Xr q+1:=by
 unfold idx at hl;split at hl
 ·rename_i hk;refine⟨fun k'=>?_,?_⟩
  ·by_cases e:k'=k
   ·exact .inr e
   ·left;unfold bf.len idx;split
    ·rw[h,oA oX];exact Int.le_refl _
    ·exact Int.le_refl _
  ·have:=aK3 (fun l:Ct=>l.count.toNat) (l:=q.bM) (l':=q'.bM) (g:=k.toNat) (a:=l) (b:=l') br7 hl (by rw[h,nH (cA hl)]) fun j y' hj hy=>⟨y',by rw[h,oA (dE hj)]at hy;exact hy,rfl⟩
   unfold Xr;omega
 ·cases hl
theorem aO3{k t:Int}(h:lh w k t=some w'):∃q',w'={w with aw:=q'}∧(∀k':Int,q'.len k'≤w.aw.len k'∨k'=k)∧Xr q'≤Xr w.aw+1:=by
 unfold lh at h;obtain⟨⟨q',b⟩,h1,rfl⟩:=aH5.1 h;refine⟨q',rfl,?_⟩;unfold bf.push at h1;split at h1
 ·rename_i l t' hl ht;split at h1
  ·cases h1;exact⟨fun _=> .inl (Int.le_refl _),Nat.le_succ _⟩
  ·split at h1
   ·cases h1
   ·split at h1
    ·cases h1;exact aO2 (l:=l) rfl hl rfl
    ·simp only[bW,cI]at h1;obtain⟨y,_,ty,_,h1⟩:=h1;split at h1
     ·cases h1
     ·cases h1;exact aO2 (l:=l) rfl hl rfl
 ·cases h1;exact⟨fun _=> .inl (Int.le_refl _),Nat.le_succ _⟩
theorem aI9{b:List (Int×Bool)}{i:Nat}{a c:Int×Bool}(h:b[i]?=some a):Rn (b.set i c)+(if a.1=2 then 0 else 1)=Rn b+(if c.1=2 then 0 else 1):=
 aK3 (fun s:Int×Bool=>if s.1=2 then 0 else 1) sX h (by rw[nH (cA h)]) fun j y' hj hy=>⟨y',by rw[oA (dE hj)]at hy;exact hy,rfl⟩
theorem aK0{b:List (Int×Bool)}{i st:Int}(h:bU b i=st)(h2:st≠2):∃t,b[i.toNat]?=some (st,t):=by
 unfold bU idx at h;split at h
 ·cases hb:b[i.toNat]? with
  |none=>rw[hb]at h;simp at h;omega
  |some a=>rw[hb]at h;simp at h;exact⟨a.2,by rw[←h]⟩
 ·simp at h;omega
theorem aK4(b:List (Int×Bool))(i:Int):Rn (tD b i).1=Rn b:=by
 unfold tD;by_cases h:bU b i≠0
 ·rw[aF h]
 ·rw[aE h];obtain⟨t,ht⟩:=aK0 (Classical.not_not.1 h) oX;split<;>(have:=aI9 (c:=((0:Int),false)) ht;have:=aI9 (c:=((1:Int),false)) ht;simp at*;omega)
theorem aO4(b:List (Int×Bool))(i:Int):Rn (ready b i).1=Rn b:=by
 unfold ready;by_cases h:bU b i=1
 ·rw[aF h];obtain⟨t,ht⟩:=aK0 h oX;have:=aI9 (c:=((0:Int),token b i)) ht;simp at*;omega
 ·rw[aE h];by_cases h2:bU b i=0∧token b i=false
  ·rw[aF h2];obtain⟨t,ht⟩:=aK0 h2.1 oX;have:=aI9 (c:=((0:Int),true)) ht;simp at*;omega
  ·rw[aE h2]
theorem aU3{b:List (Int×Bool)}{i:Nat}(h:∃t,b[i]?=some (0,t)):Rn (Av b i).1+1=Rn b:=by
 obtain⟨t,h⟩:=h;have hs:bU b i=0:=by unfold bU idx;rw[aF oX,oU,h];rfl
 unfold Av;rw[aE oX];have:=aI9 (c:=((2:Int),false)) h;simp at*;omega
structure Own(w w':Wd)(g:Nat)(x x':bI):Prop where
 hx:w.gs[g]?=some x
 gs:w'.gs=w.gs.set g x':=by rfl
 ops:x'.ops=x.ops:=by rfl
 aO:w'.aO=w.aO:=by rfl
 q:∀k:Int,w'.aw.len k≤w.aw.len k∨¬clo w (k / 2+1):=by exact fun _=> .inl (Int.le_refl _)
 dr:∀c,aH4 x c→aH4 x' c∨w'.aw.len (2*c-2)≤0∧w'.aw.len (2*c-1)≤0:=by(intro c h;exact aX h.1 (by omega))
 r:∀(c:Nat) r,w.au[c]?=some r→w'.au[c]?=some r∨aL x ((c:Int)+1):=by exact fun _ _ h=> .inl h
 s1:∀(j:Nat) y (s:Nat) sd,j≠g→w.gs[j]?=some y→y.aN=(s:Int)→w.ah[s]?=some sd→w'.ah[s]?=some sd:=by exact fun _ _ _ _ _ _ _ h=>h
 s2:∀(s:Nat) sd,w.ah[s]?=some sd→sd.cK=true→sd.g≠g∨aW x→∃sd',w'.ah[s]?=some sd'∧sd'.g=sd.g:=by exact fun _ sd h _ _=>⟨sd,h,rfl⟩
 wi:x'.bF=x.bF∨0≤x'.bF∨¬aW x:=by exact .inl rfl
 a4:¬aT x':=by(unfold aT;simp only;omega)
 done:w'.done=w.done:=by rfl
 g2:G2 w' x'
 Yu:Yu x'+Rn w'.ax+3*Xr w'.aw+1≤Yu x+Rn w.ax+3*Xr w.aw
theorem aI1(h:w'.aO=w.aO)(c:Int):clo w' c↔clo w c:=by unfold clo;rw[h]
def aH2(w w':Wd)(g:Nat)(x:bI):Prop:=∃x',Eff w w' g x x'
theorem Own.eff(E:Own w w' g x x'):aH2 w w' g x:=
 ⟨x',by rw[E.gs];exact di _ E.hx,by rw[E.gs];simp,fun j y' hj hy=>⟨y',by rw[E.gs,gd _ hj]at hy;exact hy,aL2.refl _ _⟩,E.ops,fun c h=>(aI1 E.aO c).2 h,fun c h=> .inl ((aI1 E.aO c).1 h),fun k=>(E.q k).imp id fun h h'=>h ((aI1 E.aO _).1 h'),E.dr,E.r,E.s1,E.s2,E.wi,fun h=>aX h E.a4,fun m h=> .inl (by rw[←E.done];exact h),E.g2,E.Yu⟩
theorem aI2(h:¬(6≤x.ae∧x.ae≤11)∧¬(25≤x.ae∧x.ae≤29))(c:Int):¬aH0 x c:=by
 rintro(⟨h1,_⟩|⟨_,h1,h2,_⟩)<;>omega
theorem G2.pre(L:Loc C x)(G:G2 w x)(hm:¬aw0 x)(hw:¬aW x)(ea:x'.bJ=x.bJ)(ep:x'.aN=x.aN)(nc:∀c,aH0 x' c→¬clo w' c)(eU:x'.ae=9→(aP x').ai=3→clo w' (aP x').ch→∃r,w'.au[((aP x').ch-1).toNat]?=some r∧0<r.count)(cl:∀c,aH4 x' c→clo w' c):G2 w' x':=by
 have h0:x'.bJ=0:=by rw[ea];exact Classical.byContradiction fun h=>hm (G.early h)
 refine⟨nc,fun a b=>eU b a,fun h=>aX h0 h,fun h=>aX h0 h,fun s hs=>?_,cl⟩;have:=L.aN.2 hw;omega
theorem G2.keep(G:G2 w x)(ea:x'.bJ=x.bJ)(ep:x'.aN=x.aN)(ew:x'.bF=x.bF)(ef:x'.fire=x.fire)(er:x'.res=x.res)(eg:aP x'=aP x)(ec:w'.aO=w.aO)(es:∀s:Nat,x.aN=s→w'.ah[s]?=w.ah[s]?)(hm:aw0 x→aw0 x')(hw:aI3 x'→aI3 x)(hp:¬(6≤x'.ae∧x'.ae≤11)∧¬(25≤x'.ae∧x'.ae≤29))(h22:¬(x'.ae=22∨x'.ae=23):=by(simp only;omega)):G2 w' x':=by
 refine⟨fun c h=>aX h (aI2 hp c),fun _ h=>oX,fun h=>hm (G.early (by rw[←ea];exact h)),fun h1 h2=>?_,fun s hs=>?_,fun c h=>aX h.1 h22⟩
 ·rw[ew,ef,er,eg,ec];exact G.late (by rw[←ea];exact h1) (hw h2)
 ·rw[ew];rw[ep]at hs;rcases G.par s hs with h|⟨sd,a,b,c⟩
  ·exact .inl h
  ·exact .inr ⟨sd,by rw[es s hs];exact a,b,(aI1 ec _).2 c⟩
theorem aO5(n:Nat)(h:x.ae=n)(h0:n≠0):Yu x=aH7 (x.ops.drop (x.at_.toNat+1))+loP n x.aH.length x.aq.length x.k.toNat+x.wakes.length:=by
 unfold Yu;rw[aE oX,h,oU]
theorem aJ6(hk:(aP x).ai≠9){c:Int}:aH0 x c↔((aP x).ai=2∧6≤x.ae∧x.ae≤11∨(aP x).ai=3∧(6≤x.ae∧x.ae≤8∨x.ae=10∨x.ae=11))∧c=(aP x).ch:=by
 unfold aH0;constructor
 ·rintro(h|⟨h,_⟩)
  ·exact h
  ·exact aX h hk
 ·exact .inl
theorem aO6(n n':Nat)(h:x.ae=n)(h':x'.ae=n')(eo:x'.ops=x.ops)(ea:x'.at_=x.at_){a b:Nat}(hn:n≠0∧n'≠0)(p:loP n' x'.aH.length x'.aq.length x'.k.toNat+x'.wakes.length+a≤loP n x.aH.length x.aq.length x.k.toNat+x.wakes.length+b):Yu x'+a≤Yu x+b:=by
 rw[aO5 n h hn.1,aO5 n' h' hn.2,eo,ea];omega
theorem aT4(n n':Nat)(h:x.ae=n:=by assumption)(h':x'.ae=n':=by rfl)(eo:x'.ops=x.ops:=by rfl)(ea:x'.at_=x.at_:=by rfl)(h0:n≠0∧n'≠0:=by decide)(p:loP n' x'.aH.length x'.aq.length x'.k.toNat+x'.wakes.length+1≤loP n x.aH.length x.aq.length x.k.toNat+x.wakes.length:=by(simp only[loP,py,sV,List.length_nil];omega)):Yu x'+1≤Yu x:=by
 rw[aO5 n h h0.1,aO5 n' h' h0.2,eo,ea];omega
theorem aI4(n n':Nat)(h:x.ae=n:=by assumption)(h':x'.ae=n':=by rfl)(eo:x'.ops=x.ops:=by rfl)(ea:x'.at_=x.at_:=by rfl)(h0:n≠0∧n'≠0:=by decide)(eb:Rn w'.ax=Rn w.ax:=by rfl)(p:loP n' x'.aH.length x'.aq.length x'.k.toNat+x'.wakes.length+3*Xr w'.aw+1≤loP n x.aH.length x.aq.length x.k.toNat+x.wakes.length+3*Xr w.aw:=by(simp only[loP,Wd.ay,Wd.cJ,Wd.dZ,py,sV,List.length_nil];omega)):Yu x'+Rn w'.ax+3*Xr w'.aw+1≤Yu x+Rn w.ax+3*Xr w.aw:=by
 rw[aO5 n h h0.1,aO5 n' h' h0.2,eo,ea];omega
theorem aH3(I:Inv w ls)(J:Inv2 w)(hx:w.gs[g]?=some x)(x':bI)(n n':Nat)(e1:w'.gs=w.gs.set g x':=by exact rfl)(hn:x.ae=n:=by assumption)(hn':x'.ae=n':=by rfl)(h0:n≠0∧n'≠0:=by decide)(hm:¬aw0 x∧¬aW x:=by(unfold aw0 aW;omega))(hd:∀c,aH4 x c→aH4 x' c:=by(intro c h;exact aX h.1 (by omega)))(e2:w'.aO=w.aO:=by rfl)(e3:w'.aw=w.aw:=by rfl)(e4:∀(c:Nat) r,w.au[c]?=some r→w'.au[c]?=some r∨aL x ((c:Int)+1):=by exact fun _ _ h=> .inl h)(e5:w'.ah=w.ah:=by rfl)(e6:w'.done=w.done:=by rfl)(e7:Rn w'.ax=Rn w.ax:=by rfl)(eo:x'.ops=x.ops:=by rfl)(et:x'.at_=x.at_:=by rfl)(ea:x'.bJ=x.bJ:=by rfl)(ep:x'.aN=x.aN:=by rfl)(ew:x'.bF=x.bF:=by rfl)(hc:¬aT x':=by(unfold aT;simp only;omega))(nc:∀c,aH0 x' c→¬clo w c:=by exact fun c h=>aX h (aI2 (by simp) c))(eU:x'.ae=9→(aP x).ai=3→clo w (aP x).ch→∃r,w'.au[((aP x).ch-1).toNat]?=some r∧0<r.count:=by(intro h;simp at h))(cl:∀c,aH4 x' c→clo w c:=by(intro c h;exact aX h.1 (by simp)))(pt:loP n' x'.aH.length x'.aq.length x'.k.toNat+x'.wakes.length+1≤loP n x.aH.length x.aq.length x.k.toNat+x.wakes.length:=by(simp only[loP];omega)):aH2 w w' g x:=by
 have eg:aP x'=aP x:=oM eo et;refine Own.eff (x':=x') {hx:=hx,gs:=e1,ops:=eo,aO:=e2,q:=fun k=> .inl (by rw[e3];exact Int.le_refl _),dr:=fun c h=> .inl (hd c h),r:=e4,s1:=fun _ _ _ _ _ _ _ h=>by rw[e5];exact h,s2:=fun _ sd h _ _=>⟨sd,by rw[e5];exact h,rfl⟩,wi:=.inl ew,a4:=hc,done:=e6,g2:= ?_,Yu:= ?_}
 ·exact G2.pre (I.loc g x hx) (J.g2 g x hx) hm.1 hm.2 ea ep (fun c h h'=>nc c h ((aI1 e2 c).1 h')) (fun h1 h2 h3=>by rw[eg]at h2 h3 ⊢;exact eU h1 h2 ((aI1 e2 _).1 h3)) fun c h=>(aI1 e2 c).2 (cl c h)
 ·have:=aO6 n n' hn hn' eo et h0 (a:=1) (b:=0) oX;rw[e3,e7];omega
theorem aT8(I:Inv w ls){ch:Int}(h:1≤ch∧ch≤w.au.length):dK w ch=true↔clo w ch:=by
 obtain⟨b,h1,h2⟩:=Fs I h;unfold clo;rw[h1,h2];simp
theorem aJ3{c0:Nat}{r':Ring}(hh:aL x ((c0:Int)+1))(c:Nat)(r:Ring)(h:w.au[c]?=some r):(w.au.set c0 r')[c]?=some r∨aL x ((c:Int)+1):=by
 by_cases e:c=c0
 ·exact .inr (e▸hh)
 ·exact .inl (by rw[oA (dE e)];exact h)
section
variable(I:Inv w ls)(J:Inv2 w)(hx:w.gs[g]?=some x)
include I J hx
theorem aM5(hk:(aP x).ai=4)(hp:x.ae=(1:Nat))(h:ll w g (aP x).ch=some w'):aH2 w w' g x:=by
 unfold ll at h;simp only[bW,cI]at h;obtain⟨room,_,h⟩:=h;split at h
 ·rw[wa hx]at h;cases h;exact aH3 I J hx _ 1 4
 ·rw[qK hx]at h;cases h;exact aH3 I J hx _ 1 2
theorem aL3(hk:(aP x).ai=4)(hp:x.ae=(2:Nat))(h:jG w g (aP x).ch=some w'):aH2 w w' g x:=by
 unfold jG at h;split at h
 ·rw[qK hx]at h;cases h;exact aH3 I J hx _ 2 4
 ·rw[qK hx]at h;cases h;exact aH3 I J hx _ 2 18
theorem aL4(hk:(aP x).ai=2∨(aP x).ai=4)(hp:x.ae=(5:Nat))(h:jH w g (aP x).ch=some w'):aH2 w w' g x:=by
 have hm:=(I.loc g x hx).cZ oX oX oX oX oX;unfold jH at h;split at h
 ·rw[qK hx]at h;cases h;exact aH3 I J hx _ 5 16
 ·rename_i hc;rw[wa hx]at h;cases h;exact aH3 I J hx _ 5 6 (nc:=fun c h=>bw4)
theorem aM6(hk:(aP x).ai=2∨(aP x).ai=4)(hp:x.ae=(9:Nat))(h:jY w g (aP x)=some w'):aH2 w w' g x:=by
 have hm:=(I.loc g x hx).cZ oX oX oX oX oX;have hh:aL x (aP x).ch:=bv6
 obtain⟨m1,r,m2,m3⟩:=gz I hm;unfold jY aH8 at h;simp only[m1,m2,dt,bW,eN]at h;have kt:(w.dZ ((aP x).ch-1).toNat (r.put (aP x).v).1).gs[g]?=some x:=hx;have hr:=aJ3 (w:=w) (c0:=((aP x).ch-1).toNat) (r':=(r.put (aP x).v).1) (x:=x) bm8;split at h
 ·exact bb0
 ·split at h
  ·exact bb0
  ·rw[wa kt]at h;cases h;exact aH3 I J hx _ 9 10 (e4:=hr) (nc:=fun c h=>by obtain⟨a,b⟩:=(aJ6 bl4).1 h;exact(J.g2 g x hx).nc c ((aJ6 oX).2 ⟨.inl ⟨oX,oX⟩,b⟩))
end
end
section
variable{w w' w2:Wd}{ls:List (List Nat)}{g z s C:Nat}{x x' xA y y':bI}{sd sd':gn}{o:cu}{q q':bf}
structure aR2(w w':Wd)(g:Nat)(x x':bI)(z:Nat)(y y':bI):Prop where
 hx:w.gs[g]?=some x
 hy:w.gs[z]?=some y
 ne:z≠g
 N7:aL2 w' y y'
 gs:w'.gs=(w.gs.set z y').set g x':=by rfl
 ops:x'.ops=x.ops:=by rfl
 aO:w'.aO=w.aO:=by rfl
 q:∀k:Int,w'.aw.len k≤w.aw.len k:=by exact fun _=>Int.le_refl _
 dr:∀c,aH4 x c→aH4 x' c:=by(intro c h;exact aX h.1 (by omega))
 r:∀(c:Nat) r,w.au[c]?=some r→w'.au[c]?=some r∨aL x ((c:Int)+1):=by exact fun _ _ h=> .inl h
 s1:∀(j:Nat) y (s:Nat) sd,j≠g→w.gs[j]?=some y→y.aN=(s:Int)→w.ah[s]?=some sd→w'.ah[s]?=some sd:=by exact fun _ _ _ _ _ _ _ h=>h
 s2:∀(s:Nat) sd,w.ah[s]?=some sd→sd.cK=true→sd.g≠g∨aW x→∃sd',w'.ah[s]?=some sd'∧sd'.g=sd.g:=by exact fun _ sd h _ _=>⟨sd,h,rfl⟩
 wi:x'.bF=x.bF∨0≤x'.bF∨¬aW x:=by exact .inl rfl
 a4:aT x'→0≤y'.bF∧∀(s:Nat) sd,x'.br=s→w'.ah[s]?=some sd→sd.g=z:=by(intro h;unfold aT at h;simp only at h;omega)
 done:w'.done=w.done:=by rfl
 g2:G2 w' x'
 Yu:Yu x'+Rn w'.ax+3*Xr w'.aw+1≤Yu x+Rn w.ax+3*Xr w.aw
theorem aR2.eff(E:aR2 w w' g x x' z y y'):aH2 w w' g x:=by
 have hg:(w.gs.set z y')[g]?=some x:=by rw[gd _ (dE E.ne)];exact E.hx
 have hz:w'.gs[z]?=some y':=by rw[E.gs,gd _ E.ne];exact di _ E.hy
 refine⟨x',by rw[E.gs];exact di _ hg,by rw[E.gs];simp,fun j u' hj hu=>?_,E.ops,fun c h=>(aI1 E.aO c).2 h,fun c h=> .inl ((aI1 E.aO c).1 h),fun k=> .inl (E.q k),fun c h=> .inl (E.dr c h),E.r,E.s1,E.s2,E.wi,fun h s z' sd u h1 h2 h3 h4=>?_,fun m h=> .inl (by rw[←E.done];exact h),E.g2,E.Yu⟩
 ·rw[E.gs,gd _ hj]at hu;rcases cX E.hy hu with⟨rfl,rfl⟩|⟨_,hu⟩
  ·exact⟨y,E.hy,E.N7⟩
  ·exact⟨u',hu,aL2.refl _ _⟩
 ·obtain⟨a,b⟩:=E.a4 h;have:=b s sd h1 h2;obtain rfl:z'=z:=by omega
  rw[hz]at h4;cases h4;exact a
theorem aK1(I:Inv w ls)(hs:w.ah[s]?=some sd)(hn:sd.cK=true→∀(j:Nat) y,w.gs[j]?=some y→j≠g→sd.g=j→y.aN≠(s:Int))(e:w'.ah=w.ah.set s sd')(j:Nat)(y:bI)(t:Nat)(u:gn)(hj:j≠g)(hy:w.gs[j]?=some y)(hp:y.aN=(t:Int))(hu:w.ah[t]?=some u):w'.ah[t]?=some u:=by
 obtain⟨u2,a1,a2,a3,_⟩:=I.served j y t hy hp;rw[hu]at a1;cases a1;rw[e];by_cases h:t=s
 ·subst h;rw[hs]at hu;cases hu;exact aX hp (hn a2 j y hy hj a3)
 ·rw[OW _ h];exact hu
theorem aK2(hs:w.ah[s]?=some sd)(hn:sd.cK=true→sd.g≠g∨aW x→sd'.g=sd.g)(e:w'.ah=w.ah.set s sd')(t:Nat)(u:gn)(hu:w.ah[t]?=some u)(hl:u.cK=true)(hg:u.g≠g∨aW x):∃sd',w'.ah[t]?=some sd'∧sd'.g=u.g:=by
 rw[e];by_cases h:t=s
 ·subst h;rw[hs]at hu;cases hu;exact⟨sd',qN _ hs,hn hl hg⟩
 ·exact⟨u,by rw[OW _ h];exact hu,rfl⟩
theorem aV0(Q:xQ q ls)(Q':xQ q' (iA ls s)):(∀k:Int,q'.len k≤q.len k)∧Xr q'≤Xr q∧∀(k:Nat) l,ls[k]?=some l→s∈l→Xr q'+1≤Xr q:=by
 have hE:=aJ9 s ls;refine⟨fun k=>?_,?_,fun k l h1 h2=>?_⟩
 ·by_cases hk:0≤k
  ·obtain⟨n,rfl⟩:=pz hk;rw[Q.aS1,Q'.aS1];exact bb2
  ·unfold bf.len idx;rw[aE hk,aE hk];simp
 ·rw[Q.Xr,Q'.Xr];exact hE.1
 ·rw[Q.Xr,Q'.Xr];exact hE.2 k l h1 h2
section
variable(I:Inv w ls)(J:Inv2 w)(hx:w.gs[g]?=some x)(hm:¬aw0 x∧¬aW x)
include I J hx hm
theorem G2.aK5(ec:w'.aO=w.aO)(ea:x'.bJ=x.bJ)(ep:x'.aN=x.aN)(nc:∀c,aH0 x' c→aH0 x c)(h9:x'.ae≠9∧(x'.ae=22∨x'.ae=23→∀c,aH4 x' c→clo w' c)):G2 w' x':=
 G2.pre (I.loc g x hx) (J.g2 g x hx) hm.1 hm.2 ea ep (fun c h h'=>(J.g2 g x hx).nc c (nc c h) ((aI1 ec c).1 h')) (fun h=>aX h h9.1) fun c h=>h9.2 h.1 c h
theorem aO7(hl:¬bm x)(rl:∀sd,¬eV x sd)(hd:¬(x.ae=22∨x.ae=23)){c:Int}(hc:1≤c∧c≤w.au.length)(hh:aL x c){kk:Int}(kE:kk=2*c-2∨kk=2*c-1)(Ey hand:Nat){ok:Bool}(n:Nat)(hn:x.ae=n)(h0:n≠0∧Ey≠0∧hand≠0∧Ey≠9∧hand≠9∧Ey≠8∧Ey≠27∧(Ey≠22∧Ey≠23)∧(hand≠22∧hand≠23))(aP9:∀x':bI,x'.ops=x.ops→x'.at_=x.at_→x'.aH=x.aH→x'.k=x.k→(x'.ae=Ey∨x'.ae=hand)→∀c,aH0 x' c→aH0 x c)(p1:loP Ey x.aH.length x.aq.length x.k.toNat+1≤loP n x.aH.length x.aq.length x.k.toNat)(p2:loP hand x.aH.length x.aq.length x.k.toNat+1≤loP n x.aH.length x.aq.length x.k.toNat)(h:Mach.take w g kk Ey hand=some (w',ok)):ok=false∧w'=w∨(∃s:Nat,w'=w.ay g {x with br:=s,ae:=Ey}∧aH2 w w' g x)∨∃x1,w'.gs[g]?=some x1∧x1.ae=hand∧dU x1=dU x∧∀f,aH2 w (w'.ay g {x1 with fire:=f}) g x:=by
 rcases FF I hx hl rl hc hh kE Ey hand with t|⟨s,k,l,sd,t,h2,h3,h4,h5,h6⟩|⟨s,z,sd,y,q',t,t2,t3,t4,t5,t6,t7,t8,t9,t10,t11,t12,t13,t14⟩
 ·rw[t]at h;cases h;exact .inl ⟨rfl,rfl⟩
 ·rw[t]at h;cases h;refine .inr (.inl ⟨s,rfl,Own.eff (x':={x with br:=s,ae:=Ey}) {hx:=hx,dr:=fun c h=>aX h.1 hd,a4:=by unfold aT;simp only;omega,g2:=G2.aK5 I J hx hm rfl rfl rfl (aP9 _ rfl rfl rfl rfl (.inl rfl)) ⟨by show(Ey:Int)≠9;omega,fun h=>by have h:(Ey:Int)=22∨(Ey:Int)=23:=h;omega⟩,Yu:= ?_}⟩);have:=aO6 (x:=x) (x':={x with br:=(s:Int),ae:=Ey}) n Ey hn rfl rfl rfl ⟨h0.1,h0.2.1⟩ (a:=1) (b:=0) bj2;show V.Yu {x with br:=(s:Int),ae:=Ey}+Rn w.ax+3*Xr w.aw+1≤_;omega
 ·rw[t]at h;cases h;have hD:=aV0 (q':=q') I.q t2.q;refine .inr (.inr ⟨{x with br:=s,t:=w.av,point:=w.av,bF:=z,ae:=hand},di (x:=x) _ (by show(w.gs.set z _)[g]?=_;rw[gd _ (dE t6)];exact hx),rfl,rfl,fun f=>?_⟩);rw[cY];refine aR2.eff (x':={x with br:=s,t:=w.av,point:=w.av,bF:=z,ae:=hand,fire:=f}) (z:=z) (y:=y) (y':={y with point:=w.av,bF:=g,fire:=sd.case}) {hx:=hx,hy:=t7,ne:=t6,N7:=⟨rfl,.inr (Int.natCast_nonneg g),.inr t10,.inl rfl⟩,q:=hD.1,dr:=fun c h=>aX h.1 hd,wi:=.inr (.inl (Int.natCast_nonneg z)),a4:=fun _=>⟨Int.natCast_nonneg g,fun s' AU e1 e2=>?_⟩,g2:=G2.aK5 I J hx hm rfl rfl rfl (aP9 _ rfl rfl rfl rfl (.inr rfl)) ⟨by show(hand:Int)≠9;omega,fun h=>by have h:(hand:Int)=22∨(hand:Int)=23:=h;omega⟩,Yu:= ?_}
  ·have e1:(s:Int)=s':=e1;obtain rfl:s=s':=by omega
   have e2:w.ah[s]?=some AU:=e2;rw[t3]at e2;cases e2;exact t5
  ·have:=aO6 (x:=x) (x':={x with br:=(s:Int),t:=w.av,point:=w.av,bF:=z,ae:=hand,fire:=f}) n hand hn rfl rfl rfl ⟨h0.1,h0.2.2.1⟩ (a:=1) (b:=0) bj2;have h1:=hD.2.1;show V.Yu {x with br:=(s:Int),t:=w.av,point:=w.av,bF:=z,ae:=hand,fire:=f}+Rn w.ax+3*Xr q'+1≤_;omega
end
theorem aQ5(h:w.gs[g]?=some x):w.ay g x=w:=by
 have:w.gs.set g x=w.gs:=by
  apply List.ext_getElem?;intro i;by_cases e:i=g
  ·subst e;rw[di x h,h]
  ·rw[gd _ e]
 unfold Wd.ay;rw[this]
theorem aQ6{P:Wd→Prop}(h1:w'.gs[g]?=some x)(h:∀f,P (w'.ay g {x with fire:=f})):P w':=by
 have:=h x.fire;rwa [show({x with fire:=x.fire}:bI)=x from rfl,aQ5 h1]at this
theorem aQ7(I:Inv w ls)(J:Inv2 w)(hx:w.gs[g]?=some x)(hm:¬aw0 x∧¬aW x)(hl:bm x)(rl:∀sd,¬eV x sd)(hd:¬(x.ae=22∨x.ae=23))(lost Eh:Nat)(n:Nat)(hn:x.ae=n)(h0:n≠0∧lost≠0∧Eh≠0∧lost≠9∧Eh≠9∧lost≠8∧lost≠27∧(lost≠22∧lost≠23)∧(Eh≠22∧Eh≠23))(aP9:∀x':bI,x'.ops=x.ops→x'.at_=x.at_→x'.aH=x.aH→x'.k=x.k→(x'.ae=lost∨x'.ae=Eh)→∀c,aH0 x' c→aH0 x c)(p1:loP lost x.aH.length x.aq.length x.k.toNat≤loP n x.aH.length x.aq.length x.k.toNat+2)(p2:loP Eh x.aH.length x.aq.length x.k.toNat+1≤loP n x.aH.length x.aq.length x.k.toNat)(h:rD w g lost Eh=some w'):(∃x1,w'.gs[g]?=some x1∧x1.ae=lost∧aH2 w w' g x)∨∃x1,w'.gs[g]?=some x1∧x1.ae=Eh∧dU x1=dU x∧∀f,aH2 w (w'.ay g {x1 with fire:=f}) g x:=by
 obtain⟨s,k,l,sd,a1,a2,a3,a4,a5,a6⟩:=I.look g x hx hl;obtain⟨sd',z,y,b1,b2,b3,b4,b5,b6,b7⟩:=I.EJ k l s a2 a3;rw[a4]at b1;cases b1;have mh:z≠g:=bm6
 have hn':nat? x.br=some s:=bu8
 have mj:s<w.ah.length:=cA a4;unfold rD at h;simp only[hx,hn',eQ,a4,b3,b4,bW,eN]at h;rw[aE mh]at h
 cases B9:y.bk with
 |true=>
  simp only[B9,dt,cI]at h;obtain⟨w1,e1,h⟩:=h;obtain⟨q',rfl,d1,d2,d3⟩:=aJ2 I mj rfl e1
  cases h;left;refine⟨{x with br:= -1,ae:=lost},di (x:=x) _ hx,rfl,Own.eff (x':={x with br:= -1,ae:=lost}) {hx:=hx,q:=fun k=> .inl (d1 k),dr:=fun c h=>aX h.1 hd,a4:=by unfold aT;simp only;omega,g2:=G2.aK5 I J hx hm rfl rfl rfl (aP9 _ rfl rfl rfl rfl (.inl rfl)) ⟨by show(lost:Int)≠9;omega,fun h=>by have h:(lost:Int)=22∨(lost:Int)=23:=h;omega⟩,Yu:= ?_}⟩
  have:=aO6 (x:=x) (x':={x with br:= -1,ae:=lost}) n lost hn rfl rfl rfl ⟨h0.1,h0.2.1⟩ (a:=0) (b:=2) bj2;have h1:=d3 k l a2 a3;show V.Yu {x with br:= -1,ae:=lost}+Rn w.ax+3*Xr q'+1≤_;omega
 |false=>
  simp only[B9,nW,dF]at h;have kt:((w.ay z {y with bk:=true}).ay g {x with t:=w.av}).gs[g]?=some {x with t:=w.av}:=di (x:=x) _ bm1;have rN:((w.ay z {y with bk:=true}).ay g {x with t:=w.av}).gs[z]?=some {y with bk:=true}:=bs3
  rw[Kp (sd:=sd) kt a4 b3 rN mh]at h;simp only[eN]at h;rw[wa (x:={x with t:=w.av,point:=w.av,bF:=z}) (by show((((w.gs.set z _).set g _).set g _).set z _)[g]?=_;rw[gd _ (dE mh)];exact di (x:={x with t:=w.av}) _ (di (x:=x) _ (by rw[gd _ (dE mh)];exact hx)))]at h
  have e:(((((w.ay z {y with bk:=true}).ay g {x with t:=w.av}).ay g {x with t:=w.av,point:=w.av,bF:=z}).ay z {y with bk:=true,point:=w.av,bF:=g,fire:=sd.case}).ay g {x with t:=w.av,point:=w.av,bF:=z,ae:=Eh})=
    (w.ay z {y with point:=w.av,bF:=g,fire:=sd.case,bk:=true}).ay g {x with t:=w.av,point:=w.av,bF:=z,ae:=Eh}:=by
   rw[cY,sR _ mh,cY,sR _ mh,cY,sR _ (dE mh)]
  right;have hw:w'=(w.ay z {y with point:=w.av,bF:=g,fire:=sd.case,bk:=true}).ay g {x with t:=w.av,point:=w.av,bF:=z,ae:=Eh}:=by rw[←e];exact(mx h).symm
  subst hw
  have ZQ:aW y:=by
   have oz:(aP y).ai=9:=by
    exact ba8
   have hn:¬(y.ae=31∨y.ae=32):=fun h=>by have:=((I.loc z y b4).bk oz).2 h;rw[B9]at this;cases this
   rcases b6 with⟨h,_⟩|⟨_,h⟩
   ·exact aX oz h
   ·right;refine⟨oz,?_⟩;rcases h with⟨h,_⟩|h|h|h|⟨h,_⟩|⟨h,_⟩
    ·exact .inl h
    ·exact .inr (.inl h)
    ·exact .inr (.inr (.inl h))
    ·exact .inr (.inr (.inr h))
    ·exact aX (.inl h) hn
    ·exact aX (.inr h) hn
  refine⟨{x with t:=w.av,point:=w.av,bF:=z,ae:=Eh},di (x:=x) _ bm1,rfl,rfl,fun f=>?_⟩;rw[cY];refine aR2.eff (x':={x with t:=w.av,point:=w.av,bF:=z,ae:=Eh,fire:=f}) (z:=z) (y:=y) (y':={y with point:=w.av,bF:=g,fire:=sd.case,bk:=true}) {hx:=hx,hy:=b4,ne:=mh,N7:=⟨rfl,.inr (Int.natCast_nonneg g),.inr ZQ,.inl rfl⟩,dr:=fun c h=>aX h.1 hd,wi:=.inr (.inl (Int.natCast_nonneg z)),a4:=fun _=>⟨Int.natCast_nonneg g,fun s' AU e1 e2=>?_⟩,g2:=G2.aK5 I J hx hm rfl rfl rfl (aP9 _ rfl rfl rfl rfl (.inr rfl)) ⟨by show(Eh:Int)≠9;omega,fun h=>by have h:(Eh:Int)=22∨(Eh:Int)=23:=h;omega⟩,Yu:= ?_}
  ·have e1:x.br=s':=e1;obtain rfl:s=s':=by omega
   have e2:w.ah[s]?=some AU:=e2;rw[a4]at e2;cases e2;exact b3
  ·have:=aO6 (x:=x) (x':={x with t:=w.av,point:=w.av,bF:=z,ae:=Eh,fire:=f}) n Eh hn rfl rfl rfl ⟨h0.1,h0.2.2.1⟩ (a:=1) (b:=0) bj2;show V.Yu {x with t:=w.av,point:=w.av,bF:=z,ae:=Eh,fire:=f}+Rn w.ax+3*Xr w.aw+1≤_;omega
theorem aT9(hp:6≤x.ae∧x.ae≤8)(hk:(aP x).ai≠9)(e:aP x'=aP x)(c:Int)(h:aH0 x' c):aH0 x c:=by
 obtain⟨a,b⟩:=(aJ6 (by rw[e];exact hk)).1 h;rw[e]at a b;exact(aJ6 hk).2 ⟨oX,b⟩
section
variable(I:Inv w ls)(J:Inv2 w)(hx:w.gs[g]?=some x)
include I J hx
theorem aK6(hs:Na w g)(gm:aT x)(ON:x.br=s):∃(z:Nat) (sd:gn) (y:bI) (q':bf),fZ w s=some {w with aw:=q'}∧w.ah[s]?=some sd∧sd.g=z∧z≠g∧w.gs[z]?=some y∧aL x sd.ch∧∀{w':Wd} {sd':gn} (x':bI),w'.gs=(w.gs.set z {y with aN:=s}).set g x'→w'.ah=w.ah.set s sd'→sd'.g=sd.g→w'.aw=q'→w'.aO=w.aO→w'.ax=w.ax→w'.done=w.done→(∀(c:Nat) r,w.au[c]?=some r→w'.au[c]?=some r∨aL x ((c:Int)+1))→x'.ops=x.ops→x'.bF=x.bF→¬aT x'→G2 w' x'→Yu x'+1≤Yu x→aH2 w w' g x:=by
 have Nh:x.ae=8∨x.ae=27:=gm;have oO:¬aW x:=uy oX;obtain⟨z,sd,y,q',d1,d2,d3,d4,d5,d6,_⟩:=I.Pg hx hs gm oO (Ca oX) ON;obtain⟨s0,z0,Nf,y0,h1,h2,h3,h4,h5,h6,h7,h8,h9,ph,rA,uQ,uu⟩:=I.claim g x hx gm;obtain rfl:s0=s:=oX
 rw[d2]at h2;cases h2;obtain rfl:z0=z:=oX
 rw[d5]at h6;cases h6;have hw:=J.a4 g x s0 z0 sd y hx gm ON d2 d3 d5;refine⟨z0,sd,y,q',d1,d2,d3,d4,d5,d6,?_⟩;intro w' sd' x' e1 e2 e3 e4 e5 e6 e7 e8 e9 Lj W7 e12 e13;obtain⟨q2,hq,r1,r2,_⟩:=aJ2 I (cA d2) rfl d1;have hq:q'=q2:=congrArg Wd.aw hq;subst hq;refine aR2.eff (z:=z0) (y:=y) (y':={y with aN:=s0}) {hx:=hx,hy:=d5,ne:=d4,N7:=⟨rfl,.inl rfl,.inl rfl,.inr fun _ _=> .inl hw⟩,gs:=e1,ops:=e9,aO:=e5,q:=fun k=>by rw[e4];exact r1 k,dr:=fun c h=>by have:=h.1;omega,r:=e8,s1:=aK1 I d2 (fun _ j u hu _ hj=>?_) e2,s2:=aK2 d2 (fun _ _=>e3) e2,wi:=.inl Lj,a4:=fun h=>aX h W7,done:=e7,g2:=e12,Yu:=by rw[e4,e6];omega};obtain rfl:j=z0:=oX
 rw[d5]at hu;cases hu;omega
theorem aM7(hs:Na w g)(hk:(aP x).ai=2∨(aP x).ai=4)(hp:x.ae=(8:Nat)){v:Int}(h:lp w g v=some w'):aH2 w w' g x:=by
 have L:=I.loc g x hx;obtain⟨s,ON⟩:=pz (L.br (.inl (.inl hp)));obtain⟨z,sd,y,q',d1,d2,d3,d4,d5,d6,F⟩:=aK6 I J hx hs (.inl hp) ON;have hn:nat? x.br=some s:=bq3
 unfold lp at h;simp only[hx,hn,d1,d2,bW,eN]at h;rw[sh (w:=({w with aw:=q'}:Wd).cJ s {sd with v:=v}) (z:=z) (y:=y) (sd:={sd with v:=v}) hx (qN _ d2) d3 d5 d4 bo9]at h;simp only[eN]at h;rw[qK (x:={x with wakes:=x.wakes++[(z:Int)],br:= -1}) (di (x:=x) _ bl9),cY]at h
 cases h
 exact F (sd':={sd with v:=v,done:=true}) {x with wakes:=x.wakes++[(z:Int)],br:= -1,res:=bZ 1,ae:=16} rfl (by simp[Wd.ay,Wd.cJ]) rfl rfl rfl rfl rfl (fun _ _ h=> .inl h) rfl rfl bo1 (G2.aK5 I J hx bl1 rfl rfl rfl (fun c h=>aX h (aI2 sX c)) sX)
  (aT4 8 16)
theorem aM8(hs:Na w g)(hk:(aP x).ai=3∨(aP x).ai=5)(hp:x.ae=(8:Nat))(h:pZ w g (aP x).ch=some w'):aH2 w w' g x:=by
 have L:=I.loc g x hx;obtain⟨s,ON⟩:=pz (L.br (.inl (.inl hp)));obtain⟨z,sd,y,q',d1,d2,d3,d4,d5,d6,F⟩:=aK6 I J hx hs (.inl hp) ON;have hn:nat? x.br=some s:=bq3
 have hc:=L.cZ oX oX oX oX oX;have hh:aL x (aP x).ch:=bv6
 obtain⟨hm,r,hr,ok⟩:=gz I hc;have Ht:cZ ({w with aw:=q'}:Wd) (aP x).ch=true:=hm;have hT:kq ({w with aw:=q'}:Wd) (aP x).ch=some (((aP x).ch-1).toNat,r):=hr;unfold pZ ik at h;simp only[hx,hn,d1,Ht,hT,d2,aH6,dF,bW,eN,cI]at h;obtain⟨⟨W,v⟩,hW,W2,h2,h⟩:=h
 have eW:W.gs=w.gs∧W.ah=w.ah∧W.aw=q'∧W.aO=w.aO∧W.ax=w.ax∧W.done=w.done∧(∀(c:Nat) r,w.au[c]?=some r→W.au[c]?=some r∨aL x ((c:Int)+1)):=by
  split at hW
  ·cases hW;exact⟨rfl,rfl,rfl,rfl,rfl,rfl,fun _ _ h=> .inl h⟩
  ·cases hW;exact⟨rfl,rfl,rfl,rfl,rfl,rfl,aJ3 (w:=w) bm8⟩
 obtain⟨f1,f2,f3,f4,f5,f6,f7⟩:=eW;rw[sh (w:=W) (z:=z) (y:=y) (sd:=sd) (x:=x) (by rw[f1];exact hx) (by rw[f2];exact d2) d3 (by rw[f1];exact d5) d4 bo9]at h2
 cases h2;rw[qK (x:={x with wakes:=x.wakes++[(z:Int)],br:= -1}) (di (x:=x) _ bt3),cY]at h
 cases h
 exact F (sd':={sd with done:=true}) {x with wakes:=x.wakes++[(z:Int)],br:= -1,res:={aJ:=1,case:= -1,v:=v,ok:=true},ae:=16} (by rw[←f1];rfl) (by rw[←f2];rfl) rfl f3 f4 f5 f6 f7 rfl rfl bo1 (G2.aK5 I J hx bl1 f4 rfl rfl (fun c h=>aX h (aI2 sX c)) sX)
  (aT4 8 16)
theorem aO8(hk:(aP x).ai=2∨(aP x).ai=3)(hp:x.ae=(10:Nat)){u:gn}(h:rE w g u=some w'):aH2 w w' g x:=by
 have hg:g<w.gs.length:=cA hx;unfold rE at h;simp only[hx,bW,eN]at h;split at h
 ·rename_i eK;obtain⟨j,Nf,e1,e2,_,e3⟩:=I.ZV hg eK u;simp only[e1,eQ,e2,eN]at h
  cases h;have aP9:∀c,aH0 {x with bY:=(j:Int),ae:=11} c→aH0 x c:=fun c h=>by obtain⟨a,b⟩:=(aJ6 bl4).1 h;exact(aJ6 oX).2 ⟨oX,b⟩
  exact Own.eff (x':={x with bY:=(j:Int),ae:=11}) {hx:=hx,s1:=aK1 I e2 (fun hl=>aX hl fun hl=>e3 g x hx Nf e2 hl) rfl,s2:=aK2 e2 (fun hl=>aX hl fun hl=>e3 g x hx Nf e2 hl) rfl,g2:=G2.aK5 I J hx bl1 rfl rfl rfl aP9 sX,Yu:=aI4 10 11}
 ·cases h;exact aH3 I J hx _ 10 16
theorem aL9(hk:(aP x).ai=2∨(aP x).ai=3)(hp:x.ae=(11:Nat)){kk:Int}(kE:kk=2*(aP x).ch-1∨kk=2*(aP x).ch-2)(h:rF w g kk=some w'):aH2 w w' g x:=by
 unfold rF at h;simp only[hx,bW,eN,cI]at h;obtain⟨w1,h1,h⟩:=h;obtain⟨q',rfl,p1,p2⟩:=aO3 h1
 cases h;have oE:=(I.loc g x hx).aN.2 (uy oX);have aU4:¬clo w (aP x).ch:=(J.g2 g x hx).nc _ ((aJ6 oX).2 ⟨oX,rfl⟩);exact Own.eff (x':={x with bJ:=w.av,ae:=12}) {hx:=hx,q:=fun k=>(p1 k).imp id fun e=>by rw[e,show kk / 2+1=(aP x).ch by omega];exact aU4,g2:=⟨fun c h=>aX h (aI2 sX c),fun _ h=>bj5,fun _=> .inl ⟨hk,.inl sX⟩,fun _ h=>by unfold aI3 at h;simp at h,fun s h=>bj6,fun c h=>aX h.1 sX⟩,Yu:=aI4 11 12}
theorem aO9(hs:Na w g)(hk:(aP x).ai=2∨(aP x).ai=3)(hp:x.ae=(14:Nat))(r:gn→nP)(hr:∀sd,sd.done=false→((aP x).ai=2→(r sd).aJ=3)∧((aP x).ai=3→(r sd).aJ=1∧(r sd).ok=false∧(r sd).v=0))(h:((nat? x.aN).bind fun s=>(w.ah[s]?).bind fun sd=>some (w.ay g {x with res:=r sd,aN:= -1,ae:=15}))=some w'):aH2 w w' g x:=by
 obtain⟨s,sd,h1,h2,h3,h4,h5,h6⟩:=I.Wr hx hs hp;have hn:nat? x.aN=some s:=by rw[h1];exact eQ s
 simp only[hn,h2,eN]at h
 cases h;have G:=J.g2 g x hx;have L:=I.loc g x hx;refine Own.eff (x':={x with res:=r sd,aN:= -1,ae:=15}) {hx:=hx,g2:=⟨fun c h=>aX h (aI2 sX c),fun _ h=>bj5,fun _=> .inl ⟨hk,.inl sX⟩,fun _ _=>?_,fun s h=>bj6,fun c h=>aX h.1 sX⟩,Yu:=aI4 14 15}
 rcases G.par s h1 with h|⟨AU,a,b,c⟩
 ·exact .inl h
 ·right;rw[h2]at a;cases a
  have bO:sd.ch=(aP x).ch:=by
   rcases h5 with⟨_,_,_,h,_⟩|⟨h,_⟩
   ·exact h
   ·omega
  refine⟨⟨decide ((aP x).ai=2),(aP x).ch,0⟩,.inl ⟨hk,(L.plain oX).1,rfl,rfl⟩,by rw[←bO];exact c,fun h=>(hr sd b).1 bj3,fun h=>(hr sd b).2 ?_⟩;have:(aP x).ai≠2:=bj3
  omega
end
def Blk(w:Wd)(x:bI):Prop:=∃c h:Int,1≤c∧c≤w.au.length∧w.aq[(c-1).toNat]?=some h∧h≠ -1∧((aP x).ai≠9∧x.ae=4∧c=(aP x).ch∨(aP x).ai=9∧(x.ae=24∨x.ae=31)∧idx x.aq x.k=some c)
section
variable(I:Inv w ls)(J:Inv2 w)(hx:w.gs[g]?=some x)
include I J hx
theorem aM0(hs:Na w g)(hk:2≤(aP x).ai∧(aP x).ai≤5)(hp:x.ae=(6:Nat)){kk:Int}(kE:kk=2*(aP x).ch-2∨kk=2*(aP x).ch-1){ok:Bool}(h:Mach.take w g kk 7 8=some (w',ok)):ok=false∧w'=w∨ok=true∧aH2 w w' g x:=by
 have hm:=(I.loc g x hx).cZ oX oX oX oX oX;have hh:aL x (aP x).ch:=bv6
 have eK:ok=false∧w'=w∨ok=true:=by
  rcases Cc I hx hs hk hp kE with e|⟨_,_,e,_⟩<;>rw[e]at h<;>cases h
  ·exact .inl ⟨rfl,rfl⟩
  ·exact .inr rfl
 rcases eK with eK|eK
 ·exact .inl eK
 refine .inr ⟨eK,?_⟩;rcases aO7 I J hx bl1 (by unfold bm;omega) (Ca oX) oX hm hh kE 7 8 6 hp dX (fun x' e1 e2 _ _ _ c hc=>aT9 oX oX (oM e1 e2) c hc) bk1 bk1 h with t|⟨s,_,t⟩|⟨x1,h1,_,_,t⟩
 ·rw[t.1]at eK;cases eK
 ·exact t
 ·exact aQ6 (P:=fun w'=>aH2 w w' g x) h1 t
theorem aP0(hk:2≤(aP x).ai∧(aP x).ai≤5)(hp:x.ae=(7:Nat))(h:rD w g 6 8=some w'):aH2 w w' g x:=by
 rcases aQ7 I J hx bl1 (.inl hp) (Ca oX) oX 6 8 7 hp dX (fun x' e1 e2 _ _ _ c hc=>aT9 oX oX (oM e1 e2) c hc) bk1 bk1 h with⟨_,_,_,t⟩|⟨x1,h1,_,_,t⟩
 ·exact t
 ·exact aQ6 (P:=fun w'=>aH2 w w' g x) h1 t
theorem aQ8(hk:2≤(aP x).ai∧(aP x).ai≤5)(hp:x.ae=(6:Nat))(h:cD w g 9=some w'):aH2 w w' g x:=by
 rw[wa hx]at h;cases h;have G:=J.g2 g x hx;exact aH3 I J hx _ 6 9 (nc:=fun c h=>by obtain⟨a,b⟩:=(aJ6 bl4).1 h;have a:(aP x).ai=2∧6≤(9:Int)∧(9:Int)≤11∨(aP x).ai=3∧(6≤(9:Int)∧(9:Int)≤8∨(9:Int)=10∨(9:Int)=11):=a;exact G.nc c ((aJ6 oX).2 ⟨.inl ⟨oX,oX⟩,b⟩)) (eU:=fun _ h3 gm=>aX gm (G.nc _ ((aJ6 oX).2 ⟨.inr ⟨h3,oX⟩,rfl⟩)))
theorem aM9(hk:(aP x).ai=5)(hp:x.ae=(1:Nat)∨x.ae=(2:Nat)∨x.ae=(3:Nat))(h:lx w g (aP x).ch=some w'):aH2 w w' g x:=by
 unfold lx at h;simp only[hx,bW,eN]at h;rcases hp with hp|hp|hp
 ·rw[aF (show x.ae=1 from hp)]at h;simp only[cI]at h;obtain⟨b,_,h⟩:=h;split at h
  ·rw[wa hx]at h;cases h;exact aH3 I J hx _ 1 4
  ·cases h;exact aH3 I J hx _ 1 2
 ·rw[aE oX,aF (show x.ae=2 from hp)]at h;split at h
  ·rw[wa hx]at h;cases h;exact aH3 I J hx _ 2 3
  ·cases h;exact aH3 I J hx _ 2 18
 ·rw[aE oX,aE oX]at h;simp only[cI]at h;obtain⟨b,_,h⟩:=h;split at h
  ·cases h;exact aH3 I J hx _ 3 4
  ·cases h;exact aH3 I J hx _ 3 18
theorem aL5(hk:(aP x).ai=3∨(aP x).ai=5)(hp:x.ae=(5:Nat))(h:jI w g (aP x).ch=some w'):aH2 w w' g x:=by
 have hm:=(I.loc g x hx).cZ oX oX oX oX oX;obtain⟨m1,r,m2,m3⟩:=gz I hm
 have hr:w.au[((aP x).ch-1).toNat]?=some r:=by
  exact bf7
 unfold jI at h;simp only[hx,m2,bW,eN]at h;split at h
 ·split at h
  ·rename_i h0;rw[wa hx]at h;cases h;exact aH3 I J hx _ 5 9 (nc:=fun c h=>by obtain⟨a,b⟩:=(aJ6 bl4).1 h;have a:(aP x).ai=2∧6≤(9:Int)∧(9:Int)≤11∨(aP x).ai=3∧(6≤(9:Int)∧(9:Int)≤8∨(9:Int)=10∨(9:Int)=11):=a;omega) (eU:=fun _ _ _=>⟨r,hr,h0⟩)
  ·cases h;exact aH3 I J hx _ 5 16
 ·rename_i hc;rw[wa hx]at h;cases h;exact aH3 I J hx _ 5 6 (nc:=fun c h=>bw4)
theorem aN0(hk:(aP x).ai=3∨(aP x).ai=5)(hp:x.ae=(9:Nat))(h:jZ w g (aP x)=some w'):aH2 w w' g x:=by
 have hm:=(I.loc g x hx).cZ oX oX oX oX oX;have hh:aL x (aP x).ch:=bv6
 obtain⟨m1,r,m2,m3⟩:=gz I hm
 have pL:w.au[((aP x).ch-1).toNat]?=some r:=by
  exact bf7
 unfold jZ getRing at h;simp only[m1,m2,dt,bW,eN]at h;have kt:(w.dZ ((aP x).ch-1).toNat r.get.1).gs[g]?=some x:=hx;have hr:=aJ3 (w:=w) (c0:=((aP x).ch-1).toNat) (r':=r.get.1) (x:=x) bm8;split at h
 ·exact bb0
 ·rename_i h0;split at h
  ·rename_i h3;rw[wa kt]at h;cases h;refine aH3 I J hx _ 9 10 (e4:=hr) (nc:=fun c h=>?_);obtain⟨a,b⟩:=(aJ6 bl4).1 h;intro gm;rw[b]at gm;obtain⟨r2,h4,h5⟩:=(J.g2 g x hx).eU h3 hp gm;rw[pL]at h4;cases h4;apply h0;unfold Ring.get;rw[aE oX]
  ·exact bb0
theorem aS6(hk:2≤(aP x).ai∧(aP x).ai≤6)(hp:x.ae=(4:Nat))(h:Mach.lock w g ((aP x).ch-1)=some w'):w'=w∧Blk w x∨aH2 w w' g x:=by
 have hm:=(I.loc g x hx).cZ oX oX oX oX oX;obtain⟨o,h1,h2⟩:=za I (cA hx) hm;unfold Mach.lock at h;rw[h2]at h;by_cases h0:o= -1
 ·simp only[aF h0,dt]at h;have kt:({w with aq:=w.aq.set ((aP x).ch-1).toNat g}:Wd).gs[g]?=some x:=hx;rw[qK kt]at h;cases h;right;by_cases h6:(dH w g).ai=6
  ·simp only[aF h6];exact aH3 I J hx _ 4 21
  ·simp only[aE h6];exact aH3 I J hx _ 4 5
 ·simp only[aE h0]at h
  cases h;exact .inl ⟨rfl,_,o,hm.1,hm.2,h1,h0,.inl ⟨oX,hp,rfl⟩⟩
theorem aJ0(hs:Na w g)(hk:2≤(aP x).ai∧(aP x).ai≤6∨(aP x).ai=9){d:Bool}(h:gH w g=some (w',d))(hd:d=true):w'=w∧Blk w x∨aH2 w w' g x:=by
 have L:=I.loc g x hx;have G:=J.g2 g x hx;by_cases h0:x.ae=0
 ·unfold gH at h;simp only[hx,bW,eN,cI]at h;obtain⟨o,_,h⟩:=h;rw[aE oX,aE oX,aE oX,aE oX,aE oX,aE oX]at h
  cases h;cases hd
 obtain⟨ho,_⟩:=pj I hx h0;have pM:=L.kp h0;unfold gH at h;simp only[hx,ho,bW,eN]at h;by_cases h4:x.ae=4
 ·rw[aF h4]at h;obtain⟨w2,h2,e⟩:=aH5.1 h
  cases e;refine aS6 I J hx ?_ h4 h2;rw[h4]at pM;simp[bG]at pM;omega
 rw[aE h4]at h;right;by_cases uQ:x.ae=12
 ·rw[aF uQ]at h;cases h;have jO:(aP x).ai=2∨(aP x).ai=3:=by rw[uQ]at pM;simp[bG]at pM;omega
  exact Own.eff (x':={x with ae:=13}) {hx:=hx,g2:=G.keep rfl rfl rfl rfl rfl rfl rfl (fun _ _=>rfl) (fun _=> .inl ⟨jO,.inl sX⟩) (fun h=>aX h (by unfold aI3;simp)) sX,Yu:=aI4 12 13 (p:=bo4)}
 rw[aE uQ]at h;by_cases uu:x.ae=13
 ·rw[aF uu]at h;cases h;have jO:(aP x).ai=2∨(aP x).ai=3∨(aP x).ai=9:=by rw[uu]at pM;simp[bG]at pM;omega
  exact Own.eff (x':={x with ae:=14}) {hx:=hx,g2:=G.keep rfl rfl rfl rfl rfl rfl rfl (fun _ _=>rfl) (fun _=>jO.elim (fun h=> .inl ⟨.inl h,.inl sX⟩) fun h=>h.elim (fun h=> .inl ⟨.inr h,.inl sX⟩) fun h=> .inr ⟨h,sX⟩) (fun h=>aX h (by unfold aI3;simp)) sX,Yu:=aI4 13 14 (eb:=aK4 _ _)}
 rw[aE uu]at h;by_cases UW:x.ae=15
 ·rw[aF UW]at h;simp only[cI]at h;obtain⟨s,h1,Nf,h2,h⟩:=h
  cases h;have jO:(aP x).ai=2∨(aP x).ai=3:=by rw[UW]at pM;simp[bG]at pM;omega
  have hms:x.bY=s:=by unfold nat? at h1;split at h1<;>simp at h1;omega
  obtain⟨sd,m1,m2,m3,m4⟩:=I.bY g x s hx hms;have oE:=L.aN.2 (uy oX);have oN:¬aW x:=uy oX;exact Own.eff (x':={x with bY:= -1,ae:=18}) {hx:=hx,s1:=aK1 (sd':={}) I m1 (fun _ j u hu hj e=>oX) rfl,s2:=aK2 (sd':={}) m1 (fun _ e=>by rcases e with e|e;exact aX m3 e;exact aX e oN) rfl,g2:=G.keep rfl rfl rfl rfl rfl rfl rfl (fun t e=>oX) (fun _=> .inl ⟨jO,.inr rfl⟩) (by unfold aI3;show(aP x).ai≠9∧_∨(aP x).ai=9∧_→_;omega) sX,Yu:=aI4 15 18}
 rw[aE UW]at h;by_cases SO:x.ae=16
 ·rw[aF SO]at h;obtain⟨w2,h2,e⟩:=aH5.1 h
  cases e;have jO:2≤(aP x).ai∧(aP x).ai≤6:=by rw[SO]at pM;simp[bG]at pM;omega
  unfold dk at h2;rw[qK (w:=free w ((aP x).ch-1) g) hx]at h2;cases h2;by_cases hw:x.wakes=[]
  ·simp only[aF hw];exact aH3 I J hx _ 16 18
  ·simp only[aE hw];exact aH3 I J hx _ 16 17
 rw[aE SO]at h;by_cases XJ:x.ae=17
 ·rw[aF XJ]at h;simp only[cI]at h;obtain⟨z,h1,h⟩:=h;obtain⟨w2,h2,e⟩:=aH5.1 h
  cases e
  obtain⟨z',l,J0⟩:∃z' l,x.wakes=z'::l:=by
   cases hw:x.wakes with
   |nil=>rw[hw]at h1;cases h1
   |cons a l=>exact⟨a,l,rfl⟩
  have kt:(({w with ax:=(ready w.ax z).1}:Wd).ay g {x with wakes:=x.wakes.drop 1}).gs[g]?=some {x with wakes:=x.wakes.drop 1}:=di (x:=x) _ hx;unfold dk at h2;rw[qK kt,cY]at h2;cases h2;have hma:∀p:Int,p=17∨p=18→aw0 x→aw0 {x with wakes:=x.wakes.drop 1,ae:=p}:=fun p hp h=>by unfold aw0 at*;show((aP x).ai=2∨(aP x).ai=3)∧(12≤p∧p≤15∨p=18)∨(aP x).ai=9∧(p=30∧x.res.aJ=0∨p=13∨p=14∨31≤p∨p=17∨p=18);omega
  have VB:∀p:Int,p=17∨p=18→aI3 {x with wakes:=x.wakes.drop 1,ae:=p}→aI3 x:=fun p hp h=>by unfold aI3 at*;have h:(aP x).ai≠9∧15≤p∧p≤18∨(aP x).ai=9∧(31≤p∨p=17∨p=18):=h;omega
  have Lw:(x.wakes.drop 1).length+1=x.wakes.length:=by rw[J0];rfl
  by_cases hw:x.wakes.drop 1=[]
  ·simp only[aF hw];exact Own.eff (x':={x with wakes:=x.wakes.drop 1,ae:=18}) {hx:=hx,g2:=G.keep rfl rfl rfl rfl rfl rfl rfl (fun _ _=>rfl) (hma 18 (.inr rfl)) (VB 18 (.inr rfl)) sX,Yu:=aI4 17 18 (eb:=aO4 _ _) (p:=br0)}
  ·simp only[aE hw];exact Own.eff (x':={x with wakes:=x.wakes.drop 1,ae:=17}) {hx:=hx,g2:=G.keep rfl rfl rfl rfl rfl rfl rfl (fun _ _=>rfl) (hma 17 (.inl rfl)) (VB 17 (.inl rfl)) sX,Yu:=aI4 17 17 (eb:=aO4 _ _) (p:=br0)}
 rw[aE XJ]at h
 cases h;cases hd
end
end
end V
theorem aS7:∃d,prog.underlying 52=some d∧(match d with| .struct _| .array _ _=>true|_=>false)=true:=by
 have h:(match prog.underlying 52 with|some d=>(match d with| .struct _| .array _ _=>true|_=>false)|none=>false)=true:=kX
 cases hd:prog.underlying 52 with
 |none=>rw[hd]at h;cases h
 |some d=>rw[hd]at h;exact⟨d,rfl,h⟩
theorem aQ0:(prog.info? 52).map (·.size)=some 3:=kX
theorem aJ5{fn:Func}{p t:Tmp}{ty:TypeId}(h:fn.results=#[.cell p ty,.tmp t])(tmps:Array Value)(w:World)(b:Nat)(cs:Array Value)(ty2:TypeId)(fr:Nat×Nat)(hu:∃d,prog.underlying ty=some d∧(match d with| .struct _| .array _ _=>true|_=>false)=true)(hi:(prog.info? ty).map (·.size)=some cs.size)(hp:tmps.getD p undef=.pointer (some ⟨b,0,none⟩))(hg:w.heap[b]?=some (.cells cs ty2 fr)):(results fn tmps).run prog w=.ok (.tuple #[.agg cs,tmps.getD t undef]) w:=by
 obtain⟨d,hu,hd⟩:=hu;have vT:tmps[p]?.getD undef=.pointer (some ⟨b,0,none⟩):=by simpa using hp
 have hr:(loadVar ty ⟨b,0,none⟩).run prog w=.ok (.agg cs) w:=by
  cases d with
  |struct f=>exact run_loadVar_row w b ty2 ty cs fr _ hg hu rfl hi
  |array f e=>exact run_loadVar_row w b ty2 ty cs fr _ hg hu rfl hi
  |_=>cases hd
 simp[results,h,vT,asAddr,hr]
theorem aJ1{W:World}{b:Nat}{a0 a1 a2:Value}{t:TypeId}(h:W.heap[b]?=some (.cells #[a0,a1,a2] t (0,0)))(v0 v1 v2:Value):(((W.setCell ⟨b,0,none⟩ v0).setCell ⟨b,1,none⟩ v1).setCell ⟨b,2,none⟩ v2).heap[b]?=some (.cells #[v0,v1,v2] t (0,0)):=by
 have h0:=heap_setCell_same W b 0 _ _ v0 h;have h1:=heap_setCell_same _ b 1 _ _ v1 h0;exact heap_setCell_same _ b 2 _ _ v2 h1
theorem aR3(o:cu)(f:Int)(c:Case)(h:V.aS2 o f c)(w:World)(xx:Option Addr)(cx:Nat)(fa:gW w xx o.cases):Calls prog 13 #[.agg #[I o.ai,I o.ch,I o.n,I o.v,.slice xx o.cases.length cx,B o.dG],I f] w fun e w'=>∃v,e=.returned (.tuple #[.agg #[B c.cF,I c.ch,I v],.bool true])∧Below w.heap.size w w':=by
 obtain⟨b,hb⟩:=dC (w.heap.size);obtain⟨w1,jk⟩:=dC ((w.alloc (.cells #[I o.ai,I o.ch,I o.n,I o.v,.slice xx o.cases.length cx,B o.dG] 49)).alloc (.cells #[B false,I 0,I 0] 52));have CM:Below w.heap.size w w1:=by rw[jk];exact((fp _ _).alloc cG _).alloc sX _
 have hx:w1.heap[b]?=some (.cells #[I o.ai,I o.ch,I o.n,I o.v,.slice xx o.cases.length cx,B o.dG] 49 (0,0)):=by rw[jk,hb];have h1:=dP w (.cells #[I o.ai,I o.ch,I o.n,I o.v,.slice xx o.cases.length cx,B o.dG] 49);have h2:=(((fp (w.heap.size+1) (w.alloc (.cells #[I o.ai,I o.ch,I o.n,I o.v,.slice xx o.cases.length cx,B o.dG] 49))).alloc sX (.cells #[B false,I 0,I 0] 52)).block w.heap.size sX);exact h2.trans h1
 have hy:w1.heap[b+1]?=some (.cells #[B false,I 0,I 0] 52 (0,0)):=by rw[jk,hb];have:=dP (w.alloc (.cells #[I o.ai,I o.ch,I o.n,I o.v,.slice xx o.cases.length cx,B o.dG] 49)) (.cells #[B false,I 0,I 0] 52);simpa using this
 have hbb:w.heap.size≤b+1:=oX
 have k0:w1.cell? ⟨b,0,none⟩=some (I o.ai):=bk5
 have k1:w1.cell? ⟨b,1,none⟩=some (I o.ch):=bk5
 have k3:w1.cell? ⟨b,3,none⟩=some (I o.v):=bk5
 have k4:w1.cell? ⟨b,4,none⟩=some (.slice xx o.cases.length cx):=bk5
 have z0:w1.cell? ⟨b+1,0,none⟩=some (B false):=bu7
 have z1:w1.cell? ⟨b+1,1,none⟩=some (I 0):=bu7
 have z2:w1.cell? ⟨b+1,2,none⟩=some (I 0):=bu7
 have fz0:=iM _ _ 0 _ _ hy;have fz1:=iM _ _ 1 _ _ hy;have fz2:=iM _ _ 2 _ _ hy;have hl:b<w1.heap.size:=(dh hx).1;have pJ:b+1<w1.heap.size:=(dh hy).1;obtain⟨HB,HY,IX⟩:=ij CM hy hbb;clear hx hy CM hbb;have hbB:w.heap.size≤b+1:=IX.out;have yV:Hid (∀v0 v1 v2,Below w.heap.size w (((w1.setCell ⟨b+1,0,none⟩ v0).setCell ⟨b+1,1,none⟩ v1).setCell ⟨b+1,2,none⟩ v2)):=fun v0 v1 v2=>by have e0:Below w.heap.size w (w1.setCell ⟨b+1,0,none⟩ v0):=Below.setCell HB hbB _;have e1:Below w.heap.size w ((w1.setCell ⟨b+1,0,none⟩ v0).setCell ⟨b+1,1,none⟩ v1):=Below.setCell e0 hbB _;exact Below.setCell e1 hbB _
 clear hbB;rcases h with⟨hk,hf,hs,bO⟩|⟨hk,hf,mP⟩
 ·subst hf;rw[hs,bO];rcases hk with hk|hk
  ·rw[hk]at k0 jk ⊢;clear fa hk hs bO k4;go_enter func13,ntmps13;go_upto_region 1 with fail
   rw[←hb,←jk];clear jk hb;go_wp2;refine bodyPost_ret (aJ5 rfl _ _ (b+1) #[B true,I o.ch,I o.v] 52 (0,0) aS7 aQ0 rfl (aJ1 HY _ _ _)) rfl ?_;exact⟨_,rfl,yV _ _ _⟩
  ·rw[hk]at k0 jk ⊢;clear fa hk hs bO k4;go_enter func13,ntmps13;go_upto_region 1 with fail
   rw[←hb,←jk];clear jk hb;go_wp2;refine bodyPost_ret (aJ5 rfl _ _ (b+1) #[B false,I o.ch,I 0] 52 (0,0) aS7 aQ0 rfl (aJ1 HY _ _ _)) rfl ?_;exact⟨_,rfl,yV _ _ _⟩
 ·obtain⟨fn,rfl⟩:=pz hf;rw[oU]at mP;have dD:fn<o.cases.length:=cA mP;have h9:=fa.1;obtain⟨cb,uq,rfl,s0,s1,s2,_,_⟩:=fa.2 fn c mP;have t0:=cw HB cG _ _ s0;have t1:=cw HB cG _ _ s1;have t2:=cw HB cG _ _ s2;rw[hk]at k0 jk ⊢;obtain⟨n,hn⟩:=dC (o.cases.length);rw[←hn]at k4 dD h9 jk ⊢;have v1:decide ((fn:Int)<(n:Int))=true:=by simp;omega
  have v2:decide (0≤(fn:Int))=true:=sX
  have v3:decide (n≤fn)=false:=bi8
  clear fa hk mP s0 s1 s2 hn k1 k3;go_enter func13,ntmps13;go_upto_region 1 with fail
  rw[←hb,←jk];clear jk hb;go_wp2;refine bodyPost_ret (aJ5 rfl _ _ (b+1) #[B c.cF,I c.ch,I c.v] 52 (0,0) aS7 aQ0 rfl (aJ1 HY _ _ _)) rfl ?_;exact⟨_,rfl,yV _ _ _⟩
end Go.Proofs.YtadifmnmfnihdaaGreat
