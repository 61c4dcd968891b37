import Derived.Test.YtadifmnmfnihdaaGreatA23
import Derived.Test.YtadifmnmfnihdaaGreatA25
set_option linter.all false
set_option maxRecDepth 100000
set_option maxHeartbeats 40000000
namespace Go.Proofs.YtadifmnmfnihdaaGreat
open Go.RowKit Mach Go.Proofs.Tryz
section
variable{af:Nat}{F:Fx}{w w0 w':World}{m m0 m':Mem}{S S':Wd}{L:List (Nat×Obj)}
structure DW(af:Nat)(F:Fx)(m:Mem)(w:World)(S:Wd)(L:List (Nat×Obj))(H b n k:Nat)(wr:World):Prop where
 ab:AB af F m w m wr {S with drawn:=(fI S.list S.drawn k).2} L
 own:Own m H L wr (.slice (some ⟨b,0,none⟩) k n) k (fI S.list S.drawn k).1
theorem TN(X:AB af F m0 w0 m w S L)(hl:∀v∈S.list,0≤v∧v≤65535){n:Int}(hn:1≤n∧n≤100000)(h0:0≤S.drawn∧S.drawn≤1000000):Calls prog 197 #[.pointer (some ⟨F.gN,0,none⟩),I n] w (eL (I (gw S.list S.drawn n).1) fun w'=>At af F m w m w' {S with drawn:=(gw S.list S.drawn n).2}):=
 Mx X.bj hl n hn h0
theorem uh(X:AB af F m0 w0 m w S L)(ch:Int):Calls prog 138 #[.pointer (some ⟨F.al,0,none⟩),I ch] w fun e w'=>e=.returned (.bool (cZ S ch))∧w=w':=gJ X.bj ch
theorem vo(X0:AB af F m w m w S L)(g:Nat)(x:bI)(hx:S.gs[g]?=some x)(o:cu)(dj:o.cases.length≤1000)(hl:∀v∈S.list,0≤v∧v≤65535)(h0:0≤S.drawn∧S.drawn≤100000)(ca:Option Addr)(cc:Nat)(fa:o.cases=[]∨∃nb ob,ca=some ⟨nb,0,none⟩∧(nb,ob)∈L∧CB nb ob o.cases)(ord:List Int)(TO:ord=rz (fI S.list S.drawn o.cases.length).1 o.cases.length)(cU:∀i∈ord,∃j:Nat,i=j∧∃c,o.cases[j]?=some c∧c.ch=zG o i∧ -1000000000≤c.ch∧c.ch≤1000000000)(S7:Wd)(hS7:S7=({S with drawn:=(fI S.list S.drawn o.cases.length).2}:Wd).ay g {x with aH:=(lY S o ord).map (·.1),aq:=rZ ((lY S o ord).map (·.2))})(S':Wd)(hm:(if(lY S o ord).map (·.1)≠[]then cD S7 g 24 else if o.dG then Nc S7 g 2 else never S7 g)=some S'):Calls prog 141 #[bR F,I g,.agg #[I o.ai,I o.ch,I o.n,I o.v,.slice ca o.cases.length cc,B o.dG]] w (ee (To af F m w S')):=by
 obtain⟨i0,hi,fV,gF,gG⟩:=info_parts lC;have XV:=ag hS7;have HM7:=ag hm;clear hS7 hm;obtain⟨n,hn⟩:=dC (o.cases.length)
 have j8:∀W:World,(∀p∈L,W.heap[p.1]?=some p.2)→∀(j:Nat) c,o.cases[j]?=some c→∃nb,ca=some ⟨nb,0,none⟩∧W.cell? ⟨nb,j*3+1,none⟩=some (I c.ch):=by
  intro W hW j c hj;rcases fa with h|⟨nb,ob,h1,h2,h3⟩
  ·rw[h]at hj;cases hj
  ·exact⟨nb,h1,(h3 W (hW _ h2) j c hj).2.1⟩
 have J9:=ag j8;have au3:=ag cU;have hol:ord.length=n:=by rw[TO,rK,hn]
 rw[←hn]at dj TO XV ⊢;have HOE:=ag TO;have HOL:=ag hol;have HX:=ag (X0.alloc (.cells #[I o.ai,I o.ch,I o.n,I o.v,.slice ca n cc,B o.dG] 49));have oR:=ag hx;have HN:=ag hn;clear X0 hn fa j8 cU TO hol hx;unfold bR;go_enter func141,ntmps141;go_wp2_with (at_make;go_loud (refine wpList_make_own _ rfl _ _ 28 rfl (w.heap.size+1) 3 i0 (.int .i64 0) 1 underlying28 hi fV gF _ _ _ n rfl rfl rfl (by rw[gG];omega) (by unfold maxLen;omega) (by simp) ?_));intro w1 hown bX;have hsz:(w.alloc (.cells #[I o.ai,I o.ch,I o.n,I o.v,.slice ca n cc,B o.dG] 49)).heap.size=w.heap.size+1:=by simp
 have X1:AB af F m w m w1 S _:=HX.out.af0 (v:=.slice none 0 0) (fun g h=>by cases h) (fun g h=>by cases h) bX;obtain⟨q0,q1,q2,q3,q4,q5⟩:=jD X1.head;have Vd:Own m (w.heap.size+1) ((w.heap.size,.cells #[I o.ai,I o.ch,I o.n,I o.v,.slice ca n cc,B o.dG] 49)::L) w1 (.slice (some ⟨w.heap.size+1,0,none⟩) 0 n) 0 []:=by refine⟨by simpa using hown,fun g hg=>?_⟩;simp[Value.ownBlock]at hg;subst hg;exact⟨HX.out.bj.iT (by rw[hsz];exact Nat.le_refl _),fun p hp=>by have:=HX.out.Qo p hp;rw[hsz]at this;exact this⟩
 have HD:Hid (DW af F m w S ((w.heap.size,.cells #[I o.ai,I o.ch,I o.n,I o.v,.slice ca n cc,B o.dG] 49)::L) (w.heap.size+1) (w.heap.size+1) n 0 w1):=⟨X1,Vd⟩;clear X1 hown Vd bX;have RJ:=ag (fun(k:Nat)=>ke S.list S.drawn k);go_wp2;go_loopw [6,7,21] (fun v _ q wr=>∃k:Nat,v=.slice (some ⟨w.heap.size+1,0,none⟩) k n∧q=.int .i64 k∧k≤n∧Hid (DW af F m w S ((w.heap.size,.cells #[I o.ai,I o.ch,I o.n,I o.v,.slice ca n cc,B o.dG] 49)::L) (w.heap.size+1) (w.heap.size+1) n k wr)) (fun _ _ q _=>n-(intOf q).toNat)
 case atStart=>exact⟨0,rfl,rfl,by omega,HD⟩
 case round=>
  clear HD;obtain⟨k,rfl,rfl,hk,HD⟩:=hrel;by_cases dD:k<n
  ·have R:=HD.out.ab.bj;have c11:=R.Us;have lw:=R.lt R.aB.al;have hbd:=DG S.list S.drawn k;have R0:0≤(fI S.list S.drawn k).2∧(fI S.list S.drawn k).2≤1000000:=by omega
   have HDK:=ag R0;clear R hbd R0;go_wp2_with (first|(go_at_call 197;refine(TN (S:={S with drawn:=(fI S.list S.drawn k).2}) (HD.out.ab.aI (w':=_) rfl rfl rfl rfl) hl (n:=(k:Int)+1) (by omega) HDK.out).mono ?_;rintro e w2 ⟨rfl,A2⟩;have nx:=ag A2;have OJ:=ag (HD.out.own.av A2);clear A2)|(at_builtin;go_loud (refine wpList_append_fits _ rfl (.tmp 24) (.tmp 32) 28 rfl (w.heap.size+1) 3 i0 1 underlying28 hi gF (w.heap.size+1) k n _ rfl (OJ.out.own.alloc _) ⟨w2.heap.size,0,none⟩ 1 1 [.int .i64 (gw S.list (fI S.list S.drawn k).2 ((k:Int)+1)).1] rfl rfl (cell_one_new _ _ _) (by intro u hu;simp at hu;subst hu;rfl) (by omega) ?_)));intro w3 er zO
   have HD3:Hid (DW af F m w S ((w.heap.size,.cells #[I o.ai,I o.ch,I o.n,I o.v,.slice ca n cc,B o.dG] 49)::L) (w.heap.size+1) (w.heap.size+1) n (k+1) w3):=by
    have hf:=OJ.out.free;have Y:=((HD.out.ab.av nx.out).alloc (.cells #[I (gw S.list (fI S.list S.drawn k).2 ((k:Int)+1)).1] 3)).less (L':=(w.heap.size,.cells #[I o.ai,I o.ch,I o.n,I o.v,.slice ca n cc,B o.dG] 49)::L) (fun p hp=>nO _ hp);refine⟨Y.af0 (v:=.slice (some ⟨w.heap.size+1,0,none⟩) k n) hf (fun g h=>?_) zO,⟨?_,hf⟩⟩
    ·simp[Value.ownBlock]at h;omega
    ·simpa[fI]using er
   clear nx OJ er zO HD;go_wp2;go_roundw
   case rel=>exact⟨k+1,rfl,by go_num,by omega,HD3⟩
   case measure=>simp[intOf];omega
  ·obtain rfl:k=n:=by omega
   have jF:Rd .i64 wr (some ⟨w.heap.size+1,0,none⟩) (fI S.list S.drawn k).1:=(by have h:=HD.out.own.own;have h2:yv (w.heap.size+1) wr (.slice (some ⟨w.heap.size+1,0,none⟩) k k) (fI S.list S.drawn k).1:=(by unfold yv;rw[ke];exact h);obtain⟨ao,cap,e,jF⟩:=h2.rd (by rw[ke];omega);simp only[Value.slice.injEq]at e;obtain⟨rfl,_⟩:=e;exact jF);have CZ:=ag jF;have HAB:=ag HD.out.ab;clear jF HD;go_wp2_with (go_at_call 198;refine(Lc (fI S.list S.drawn k).1 k (ke _ _ _).symm (some ⟨w.heap.size+1,0,none⟩) k _ CZ.out dj).mono ?_;rintro e wA ⟨v36,rfl,hoo,hbb⟩;rw[←HOE.out]at hoo;obtain⟨ao,cap,rfl,hro⟩:=hoo.rd (by rw[HOL.out];omega);rw[HOL.out];obtain⟨HRO,IX⟩:=dA hro hbb;clear hoo hro hbb);have Qp:=ag ((HAB.out.below IX.out));have SA:Hid (vk wA.heap.size wA wA (.slice none 0 0) (.slice none 0 0) [] []):=⟨fp _ _,Nat.le_refl _,World.ownsRow_nil _ _ _ _,World.ownsRow_nil _ _ _ _,fun g h=>by cases h⟩;clear HAB CZ IX q0 q1 q2 q3 q4 q5;go_loopw [8,9,38] (fun v8 v9 q wr2=>∃j:Nat,q=.int .i64 j∧j≤k∧Hid (vk wA.heap.size wA wr2 v8 v9 ((lY S o (ord.take j)).map (·.1)) ((lY S o (ord.take j)).map (·.2)))) (fun _ _ q _=>k-(intOf q).toNat)
   case atStart=>exact⟨0,rfl,by omega,SA⟩
   case round=>
    obtain⟨j,rfl,hj,HP⟩:=hrel;by_cases rT:j<k
    ·have hjo:j<ord.length:=(by rw[HOL.out];exact rT);obtain⟨b,off,rfl,hc⟩:=HRO.out.at j hjo;obtain⟨i,Xy⟩:∃i,i=ord.getD j 0:=⟨_,rfl⟩;have U4:ord[j]?=some i:=(by rw[Xy,yk,fv hjo];rfl);have xT:ord.take (j+1)=ord.take j++[i]:=(by rw[List.take_succ,U4];rfl);obtain⟨jj,rfl,c,hcj,hce,gm,G9⟩:=au3.out i (lf U4);rw[←Xy]at hc;have hAW:=Qp.out.below HP.out.DS;have xz:=(Below.cell HP.out.DS (p:=⟨b,off+j,none⟩) (xo _ _ hc)).trans hc;obtain⟨nb,rfl,Ws⟩:=J9.out wr (fun p hp=>(hAW.loc p (nO _ hp)).1) jj c hcj;obtain⟨q0,q1,q2,q3,q4,q5⟩:=jD hAW.head;have hjk:jj<k:=(by rw[HN.out];exact(cA hcj));rw[hce]at Ws gm G9;obtain⟨ch,bO⟩:=dC (zG o jj);rw[←bO]at Ws gm G9;have WG:=ag bO;obtain⟨l8,h8⟩:∃l,l=(lY S o (ord.take j)).map (·.1):=⟨_,rfl⟩;obtain⟨l9,h9⟩:∃l,l=(lY S o (ord.take j)).map (·.2):=⟨_,rfl⟩;have J8:l8.length≤1000∧l9.length≤1000:=(by have h1:=Ck S o (ord.take j);have h2:(ord.take j).length≤j:=(by simp;omega);rw[h8,h9,ko,ko];omega);obtain⟨Er,F6⟩:=J8;rw[←h8,←h9]at HP;obtain⟨H8,H9,HTK,HAW⟩:=ia h8 h9 xT hAW;clear hc h8 h9 xT bO hce hcj U4 Xy hAW SA;have HWS:=ag HP.out.hB;by_cases gv:cZ S ch=true
     ·have HM:Hid (∀W:World,W.heap=wr.heap→W.os=wr.os→W.tape=wr.tape→W.output=wr.output→Calls prog 138 #[.pointer (some ⟨F.al,0,none⟩),I ch] W fun e w'=>e=.returned (.bool true)∧W=w'):=fun W e1 e2 e3 e4=>by
       have:=uh (HAW.out.aI e1 e2 e3 e4) ch;rw[←gv];exact this
      have MF:=ag gv;clear gv;go_wp2_with (first|(go_at_call 138;refine(HM.out _ rfl rfl rfl rfl).mono ?_;rintro e w2 ⟨rfl,rfl⟩)|(at_builtin;go_loud (refine lD rfl (.tmp 51) (.tmp 53) 28 rfl wA.heap.size 3 i0 (.int .i64 0) 8 underlying28 hi fV gF gG rfl _ l8.length (l8.map I) rfl (ou (o:=.cells #[I jj] 3) HP.out.o8 rfl) ⟨wr.heap.size,0,none⟩ 1 (I jj) rfl (vZ _ _ _) rfl (by unfold maxLen;omega) (by omega) (by simp;have:=HWS.out;omega) ?_)));intro g2 hU w2 fu jV pk;have En:=ag (HP.out.Va (o:=.cells #[I jj] 3) rfl rfl rfl rfl fu jV (pk.imp (fun h=>⟨_,h⟩) (fun h=>by rw[h];simp)));have au4:=ag En.out.hB;clear fu jV pk HP q0 q1 q2 q3 q4 q5 xz Ws;go_wp2_with (at_builtin;go_loud (refine lD rfl (.tmp 55) (.tmp 57) 28 rfl wA.heap.size 3 i0 (.int .i64 0) 8 underlying28 hi fV gF gG rfl _ l9.length (l9.map I) rfl (ou (o:=.cells #[I ch] 3) En.out.o9 rfl) ⟨w2.heap.size,0,none⟩ 1 (I ch) rfl (vZ _ _ _) rfl (by unfold maxLen;omega) (by omega) (by simp;have:=au4.out;omega) ?_));intro g3 Oh w3 er zO KI;have Eo:=ag (En.out.af1 (o:=.cells #[I ch] 3) rfl rfl rfl rfl er zO (KI.imp (fun h=>⟨_,h⟩) (fun h=>by rw[h];simp)));clear er zO KI En;have G6:Hid (vk wA.heap.size wA w3 (.slice (some ⟨g2,0,none⟩) (l8.length+1) hU) (.slice (some ⟨g3,0,none⟩) (l9.length+1) Oh) ((lY S o (ord.take (j+1))).map (·.1)) ((lY S o (ord.take (j+1))).map (·.2))):=(by have h:=Eo.out;rw[H8.out,H9.out]at h ⊢;rw[HTK.out,zH,←WG.out,aF MF.out,List.map_append,List.map_append];exact h);clear Eo;go_wp2;go_roundw
      case rel=>exact⟨j+1,by go_num,by omega,G6⟩
      case measure=>simp[intOf];omega
     ·have HM:Hid (∀W:World,W.heap=wr.heap→W.os=wr.os→W.tape=wr.tape→W.output=wr.output→Calls prog 138 #[.pointer (some ⟨F.al,0,none⟩),I ch] W fun e w'=>e=.returned (.bool false)∧W=w'):=fun W e1 e2 e3 e4=>by
       have:=uh (HAW.out.aI e1 e2 e3 e4) ch;rw[show cZ {S with drawn:=(fI S.list S.drawn k).2} ch=false by simpa[cZ]using gv]at this;exact this
      have MF:Hid (¬cZ S ch=true):=ag gv;clear gv;have G6:Hid (vk wA.heap.size wA wr u8 u9 ((lY S o (ord.take (j+1))).map (·.1)) ((lY S o (ord.take (j+1))).map (·.2))):=(by have h:=HP.out;rw[H8.out,H9.out]at h;rw[HTK.out,zH,←WG.out,aE MF.out,List.append_nil];exact h);have Ve:=ag (HP.out);go_wp2_with (go_at_call 138;refine(HM.out _ rfl rfl rfl rfl).mono ?_;rintro e w2 ⟨rfl,rfl⟩);go_roundw
      case rel=>exact⟨j+1,by go_num,by omega,G6⟩
      case measure=>simp[intOf];omega
    ·obtain rfl:j=k:=by omega
     rw[show ord.take j=ord by rw[←HOL.out,List.take_length]]at HP;have eM:g<S.gs.length:=cA oR.out;obtain⟨l8,h8⟩:∃l,l=(lY S o ord).map (·.1):=⟨_,rfl⟩;obtain⟨l9,h9⟩:∃l,l=(lY S o ord).map (·.2):=⟨_,rfl⟩;have J8:l8.length≤1000∧l9.length≤1000:=(by have h1:=Ck S o ord;have h2:=HOL.out;rw[h8,h9,ko,ko];omega);obtain⟨Er,F6⟩:=J8;rw[←h8,←h9]at HP XV;rw[←h8]at HM7;have BX:=Qp.out.below HP.out.DS;have R:=BX.bj;have RA:=Qp.out.bj;have c3:=R.eu;have l1:=R.lt R.aB.gs;have l2:=R.lt R.aB.al;have lA:=RA.lt RA.aB.gs;have fo:=R.frozen R.aB.gs (g*25+20);have co:=R.g oR.out 20 _ rfl;have nbx:F.gs≠w.heap.size:=BX.ne R.aB.gs;obtain⟨q0,q1,q2,q3,q4,q5⟩:=jD BX.head;have hbase:af≤wA.heap.size:=RA.eS;have FI:w.heap.size≤wA.heap.size:=Qp.out.at_.mv.size;have r8:∀gg,wA.heap.size≤gg→(∀r',m.aV r'≠some gg)∧w.heap.size≤gg:=fun gg h=>⟨RA.iT h,by omega⟩
     obtain⟨a8,c8,rfl⟩:=qo HP.out.o8;obtain⟨m5,A5,hm5⟩:=At.Qe BX.at_ oR.out rfl (ql HP.out.o8 hbase) (fun gg G4=>r8 gg (pN HP.out.o8 G4).1);have ho9:yv wA.heap.size (wr.setCell ⟨F.gs,g*25+20,none⟩ (.slice a8 l8.length c8)) u9 l9:=vl HP.out.o9 fun gg G4 dD=>by have:=(pN HP.out.o9 G4).1;exact fQ _ _ _ _ (by show gg≠F.gs;omega)
     obtain⟨a9,c9,rfl,hr9⟩:=ho9.rd (by omega);have HR9:=ag hr9;have vV:=ag A5;have Bm:Hid ((wr.setCell ⟨F.gs,g*25+20,none⟩ (.slice a8 l8.length c8)).heap[w.heap.size]?=some (.cells #[I o.ai,I o.ch,I o.n,I o.v,.slice ca j cc,B o.dG] 49)∧w.heap.size<(wr.setCell ⟨F.gs,g*25+20,none⟩ (.slice a8 l8.length c8)).heap.size):=(by refine⟨(fQ _ _ _ _ (dE nbx)).trans BX.head,?_⟩;have:=(dh BX.head).1;simpa[World.setCell]using this);have ub:Hid ((({S with drawn:=(fI S.list S.drawn j).2}:Wd).ay g {x with aH:=l8}).gs[g]?=some {x with aH:=l8}):=az oR.out;clear BX R RA HP SA Qp hr9 A5 r8 hm5 ho9 h8 h9 HX;have FO:Hid (S7.gs[g]?=some {x with aH:=l8,aq:=rZ l9}):=(by rw[XV.out];exact az oR.out);by_cases Fu:l8=[]
     ·subst Fu;have MG:=HM7.out;rw[aE (by simp)]at MG;clear HM7
      cases XQ:o.dG with
      |true=>
       rw[XQ]at MG;rw[aF rfl]at MG;have HM9:=ag MG;clear MG;rw[XQ]at Bm;go_wp2_with (first|(go_at_call 199;refine(vW l9 l9.length rfl a9 c9 _ HR9.out F6).mono ?_;rintro e w6 ⟨v72,rfl,Gl,yD⟩;obtain⟨a72,c72,rfl⟩:=qo Gl;have A6:=vV.out.heap yD;have R6:=A6.bj;have R5:=vV.out.bj;obtain⟨m7,A7⟩:=A6.zI ub.out rfl (ql Gl R5.eS) (fun gg G4=>⟨R5.iT (pN Gl G4).1,by have:=(pN Gl G4).1;have:=Bm.out.2;omega⟩);have c21:=R6.g ub.out 21 _ rfl;have f21:=R6.frozen R6.aB.gs (g*25+21);have c2:=R6.g ub.out 2 _ rfl;have f2:=R6.frozen R6.aB.gs (g*25+2);have l61:=R6.lt R6.aB.gs;have l62:=R6.lt R6.aB.al;obtain⟨z0,z1,z2,z3,z4,z5⟩:=jD ((yD.block w.heap.size Bm.out.2).trans Bm.out.1);rw[aA,←XV.out]at A7;have WZ:=ag A7;clear A6 A7 R6 R5 Gl yD)|(go_at_call 140;refine(F7 WZ.out.bj g 2 S' HM9.out).mono ?_;rintro e w8 ⟨rfl,A8⟩;have HA8:=ag (WZ.out.cont A8);clear A8));go_end0;exact⟨rfl,_,HA8.out⟩
      |false=>
       rw[XQ]at MG;rw[aE (by simp)]at MG;have HM9:=ag MG;clear MG;rw[XQ]at Bm;go_wp2_with (first|(go_at_call 199;refine(vW l9 l9.length rfl a9 c9 _ HR9.out F6).mono ?_;rintro e w6 ⟨v72,rfl,Gl,yD⟩;obtain⟨a72,c72,rfl⟩:=qo Gl;have A6:=vV.out.heap yD;have R6:=A6.bj;have R5:=vV.out.bj;obtain⟨m7,A7⟩:=A6.zI ub.out rfl (ql Gl R5.eS) (fun gg G4=>⟨R5.iT (pN Gl G4).1,by have:=(pN Gl G4).1;have:=Bm.out.2;omega⟩);have c21:=R6.g ub.out 21 _ rfl;have f21:=R6.frozen R6.aB.gs (g*25+21);have c2:=R6.g ub.out 2 _ rfl;have f2:=R6.frozen R6.aB.gs (g*25+2);have l61:=R6.lt R6.aB.gs;have l62:=R6.lt R6.aB.al;obtain⟨z0,z1,z2,z3,z4,z5⟩:=jD ((yD.block w.heap.size Bm.out.2).trans Bm.out.1);rw[aA,←XV.out]at A7;have WZ:=ag A7;clear A6 A7 R6 R5 Gl yD)|(go_at_call 139;refine(zC WZ.out.bj g S' HM9.out).mono ?_;rintro e w8 ⟨rfl,A8⟩;have HA8:=ag (WZ.out.cont A8);clear A8));go_end0;exact⟨rfl,_,HA8.out⟩
     ·have MG:=HM7.out;rw[aF Fu]at MG;obtain⟨xx,hxx,rfl⟩:=dr MG;rw[FO.out]at hxx
      cases hxx;have hpos:0<l8.length:=pd Fu;clear MG HM7 Fu;go_wp2_with (go_at_call 199;refine(vW l9 l9.length rfl a9 c9 _ HR9.out F6).mono ?_;rintro e w6 ⟨v72,rfl,Gl,yD⟩;obtain⟨a72,c72,rfl⟩:=qo Gl;have A6:=vV.out.heap yD;have R6:=A6.bj;have R5:=vV.out.bj;obtain⟨m7,A7⟩:=A6.zI ub.out rfl (ql Gl R5.eS) (fun gg G4=>⟨R5.iT (pN Gl G4).1,by have:=(pN Gl G4).1;have:=Bm.out.2;omega⟩);have c21:=R6.g ub.out 21 _ rfl;have f21:=R6.frozen R6.aB.gs (g*25+21);have c2:=R6.g ub.out 2 _ rfl;have f2:=R6.frozen R6.aB.gs (g*25+2);have l61:=R6.lt R6.aB.gs;have l62:=R6.lt R6.aB.al;obtain⟨z0,z1,z2,z3,z4,z5⟩:=jD ((yD.block w.heap.size Bm.out.2).trans Bm.out.1);rw[aA,←XV.out]at A7;have WZ:=ag A7;clear A6 A7 R6 R5 Gl yD);go_end0;have A8:=WZ.out.g FO.out {x with aH:=l8,aq:=rZ l9,ae:=24} (q:=2) (v:=I 24)
      exact⟨rfl,_,A8⟩
theorem sB(X:AB af F m0 w0 m w S L){g:Nat}{x:bI}(hx:S.gs[g]?=some x):Calls prog 84 #[bR F,I g] w (ee fun w'=>∃m',AB af F m0 w0 m' w' (S.ay g (bu x)) L):=
 (yE X.bj g x hx).mono fun e w' ⟨h1,m',h2⟩=>⟨h1,m',X.av h2⟩
theorem Qq(X:AB af F m0 w0 m w S L)(g:Nat){S':Wd}(hm:never S g=some S'):Calls prog 139 #[bR F,I g] w (ee fun w'=>AB af F m0 w0 m w' S' L):=
 (zC X.bj g S' hm).mono fun e w' ⟨h1,h2⟩=>⟨h1,X.av h2⟩
theorem W4(X:AB af F m0 w0 m w S L)(g:Nat)(aJ:Int){S':Wd}(hm:Nc S g aJ=some S'):Calls prog 140 #[bR F,I g,I aJ] w (ee fun w'=>AB af F m0 w0 m w' S' L):=
 (F7 X.bj g aJ S' hm).mono fun e w' ⟨h1,h2⟩=>⟨h1,X.av h2⟩
theorem sC(X:AB af F m0 w0 m w S L){g:Nat}{o:cu}(dj:o.cases.length≤1000)(hl:∀v∈S.list,0≤v∧v≤65535)(h0:0≤S.drawn∧S.drawn≤100000)(ca:Option Addr)(cc:Nat)(fa:o.cases=[]∨∃nb ob,ca=some ⟨nb,0,none⟩∧(nb,ob)∈L∧CB nb ob o.cases){S':Wd}(hm:gM S g o=some S'):Calls prog 141 #[.pointer (some ⟨F.al,0,none⟩),I g,.agg #[I o.ai,I o.ch,I o.n,I o.v,.slice ca o.cases.length cc,B o.dG]] w (ee (To af F m0 w0 S')):=by
 unfold gM at hm;split at hm
 ·cases hm
 simp only[I6,bW,cI]at hm;obtain⟨cs,h1,x,hx,hm⟩:=hm;obtain⟨h2,rfl⟩:=Ji h1;rw[ke]at h2 hm;refine(vo ⟨At.refl X.bj,X.loc⟩ g x hx o dj hl h0 ca cc fa _ rfl h2 _ rfl S' ?_).mono fun e w' ⟨h3,m',h4⟩=>⟨h3,m',X.at_.cont h4⟩
 rw[I7]at hm;simpa using hm
theorem pw(R:bz af F w m S)(g:Nat)(x:bI)(hx:S.gs[g]?=some x)(ks:0≤x.at_∧x.at_<x.ops.length)(o:cu)(ho:dH S g=o)(dj:o.cases.length≤1000)(pl:Int)(b:Bool)(gv:cZ S o.ch=b)(S':Wd)(hS:S'=S.ay g {bu x with call:=S.av,ae:=pl})(hk:(o.ai=1∧pl=20)∨(o.ai=7∧pl=20)∨(o.ai=8∧pl=20)∨(o.ai=2∧pl=4∧b=true)∨(o.ai=3∧pl=4∧b=true)∨(o.ai=6∧pl=4∧b=true)∨(o.ai=4∧pl=1∧b=true)∨(o.ai=5∧pl=1∧b=true)):Calls prog 89 #[bR F,I g] w (ee (To af F m w S')):=by
 have eM:=cA hx;have c3:=R.eu;obtain⟨a0,c0,Gm⟩:=mE R hx;have p0:=R.g0 hx;rw[Gm]at p0;have p1:=R.g hx 1 _ rfl;have cm:=R.lt R.aB.gs;have aU:=R.lt R.aB.al;obtain⟨n0,vN⟩:=dC (x.ops.length);rw[←vN]at p0;have Qr:decide ((n0:Int)≤x.at_)=false:=by simp;omega
 have TP:=R.heap (w':=w) (fun _ _ _=>rfl);have xW:=ag R.eS;have HR:=ag (At.refl R);obtain⟨HX,HO,MF,HS⟩:=ia hx ho gv hS;rcases hk with⟨hk,rfl⟩|⟨hk,rfl⟩|⟨hk,rfl⟩|⟨hk,rfl,rfl⟩|⟨hk,rfl,rfl⟩|⟨hk,rfl,rfl⟩|⟨hk,rfl,rfl⟩|⟨hk,rfl,rfl⟩
 all_goals
  first|have jg:(o.ai==1)=false:=by rw[hk];rfl|have jg:(o.ai==1)=true:=by rw[hk];rfl
  first|have TH:(o.ai==7)=false:=by rw[hk];rfl|have TH:(o.ai==7)=true:=by rw[hk];rfl
  first|have TI:(o.ai==8)=false:=by rw[hk];rfl|have TI:(o.ai==8)=true:=by rw[hk];rfl
  first|have jO:(o.ai==2)=false:=by rw[hk];rfl|have jO:(o.ai==2)=true:=by rw[hk];rfl
  first|have sk:(o.ai==3)=false:=by rw[hk];rfl|have sk:(o.ai==3)=true:=by rw[hk];rfl
  first|have Eu:(o.ai==4)=false:=by rw[hk];rfl|have Eu:(o.ai==4)=true:=by rw[hk];rfl
  first|have Qs:(o.ai==5)=false:=by rw[hk];rfl|have Qs:(o.ai==5)=true:=by rw[hk];rfl
  first|have Qt:(o.ai==6)=false:=by rw[hk];rfl|have Qt:(o.ai==6)=true:=by rw[hk];rfl
  first|have oz:(o.ai==9)=false:=by rw[hk];rfl|have oz:(o.ai==9)=true:=by rw[hk];rfl
  clear R hx ho hk gv hS Gm vN TP;unfold bR;go_enter func89,ntmps89;go_wp2_with fail
  go_quiet (fail);go_wp2_with (first|(go_at_call 92;refine(dw (af:=af) (F:=F) (m0:=m) (w0:=w) (m:=m) (S:=S) ?_ g HX.out HO.out dj).mono ?_;exact HR.out.aI;rintro e w1 ⟨⟨cv,rfl,gE⟩,A1⟩;obtain⟨ca,cc,rfl⟩:=dm.shape gE;have iv:=ag ((AB.qn A1).alloc (eD o ca cc));clear A1 gE)|(go_at_call 84;refine(sB (af:=af) (F:=F) (m0:=m) (w0:=w) (m:=m) (L:=[(w1.heap.size,eD o ca cc)]) (S:=S) ?_ HX.out).mono ?_;exact iv.out.aI;rintro e wN ⟨rfl,mN,X⟩;have RN:=X.bj;obtain⟨q0,q1,q2,q3,q4,q5⟩:=jD X.head;have nb1:=X.ne RN.aB.gs;have nb2:=X.ne RN.aB.al;have d3:=RN.eu;have d2:=RN.dM;have l1:=RN.lt RN.aB.gs;have l2:=RN.lt RN.aB.al;have n1:=RN.ne RN.aB.al RN.aB.gs;have n2:=n1.symm;have r5:=RN.g (az HX.out) 5 _ rfl;have fr5:=RN.frozen RN.aB.gs (g*25+5);have r2:=RN.g (az HX.out) 2 _ rfl;have Au:=RN.frozen RN.aB.gs (g*25+2);have Me:g<(S.ay g (bu x)).gs.length:=(uC (az HX.out)).1;have Y1:=X.g (az HX.out) {bu x with call:=S.av} (q:=5) (v:=I S.av);rw[aA]at Y1;have HY:=ag Y1;(first|(have Y2:=Y1.g (az HX.out) {bu x with call:=S.av,ae:=20} (q:=2) (v:=I 20);rw[aA,←HS.out]at Y2;have HZ:=ag Y2;clear Y2)|(have Y2:=Y1.g (az HX.out) {bu x with call:=S.av,ae:=4} (q:=2) (v:=I 4);rw[aA,←HS.out]at Y2;have HZ:=ag Y2;clear Y2)|(have Y2:=Y1.g (az HX.out) {bu x with call:=S.av,ae:=1} (q:=2) (v:=I 1);rw[aA,←HS.out]at Y2;have HZ:=ag Y2;clear Y2));clear X Y1 RN)|(go_at_call 138;refine(uh (af:=af) (F:=F) (m0:=m) (w0:=w) (m:=mN) (S:=S.ay g {bu x with call:=S.av}) (L:=[(w1.heap.size,eD o ca cc)]) ?_ o.ch).mono ?_;exact HY.out.aI;rintro e wM ⟨he,rfl⟩;rw[show cZ (S.ay g {bu x with call:=S.av}) o.ch=_ from MF.out]at he;subst he));go_end0;exact⟨rfl,_,HZ.out.at_⟩
theorem KJ(R:bz af F w m S)(g:Nat)(x:bI)(hx:S.gs[g]?=some x)(ks:0≤x.at_∧x.at_<x.ops.length)(o:cu)(ho:dH S g=o)(dj:o.cases.length≤1000)(gv:cZ S o.ch=false)(S':Wd)(hS:never (S.ay g {bu x with call:=S.av}) g=some S')(hk:o.ai=2∨o.ai=3):Calls prog 89 #[bR F,I g] w (ee (To af F m w S')):=by
 have eM:=cA hx;have c3:=R.eu;obtain⟨a0,c0,Gm⟩:=mE R hx;have p0:=R.g0 hx;rw[Gm]at p0;have p1:=R.g hx 1 _ rfl;have cm:=R.lt R.aB.gs;have aU:=R.lt R.aB.al;obtain⟨n0,vN⟩:=dC (x.ops.length);rw[←vN]at p0;have Qr:decide ((n0:Int)≤x.at_)=false:=by simp;omega
 have TP:=R.heap (w':=w) (fun _ _ _=>rfl);have xW:=ag R.eS;have HR:=ag (At.refl R);obtain⟨HX,HO,MF,HS⟩:=ia hx ho gv hS;rcases hk with hk|hk
 all_goals
  first|have jg:(o.ai==1)=false:=by rw[hk];rfl|have jg:(o.ai==1)=true:=by rw[hk];rfl
  first|have TH:(o.ai==7)=false:=by rw[hk];rfl|have TH:(o.ai==7)=true:=by rw[hk];rfl
  first|have TI:(o.ai==8)=false:=by rw[hk];rfl|have TI:(o.ai==8)=true:=by rw[hk];rfl
  first|have jO:(o.ai==2)=false:=by rw[hk];rfl|have jO:(o.ai==2)=true:=by rw[hk];rfl
  first|have sk:(o.ai==3)=false:=by rw[hk];rfl|have sk:(o.ai==3)=true:=by rw[hk];rfl
  first|have Eu:(o.ai==4)=false:=by rw[hk];rfl|have Eu:(o.ai==4)=true:=by rw[hk];rfl
  first|have Qs:(o.ai==5)=false:=by rw[hk];rfl|have Qs:(o.ai==5)=true:=by rw[hk];rfl
  first|have Qt:(o.ai==6)=false:=by rw[hk];rfl|have Qt:(o.ai==6)=true:=by rw[hk];rfl
  first|have oz:(o.ai==9)=false:=by rw[hk];rfl|have oz:(o.ai==9)=true:=by rw[hk];rfl
  clear R hx ho hk gv hS Gm vN TP;unfold bR;go_enter func89,ntmps89;go_wp2_with fail
  go_quiet (fail);go_wp2_with (first|(go_at_call 92;refine(dw (af:=af) (F:=F) (m0:=m) (w0:=w) (m:=m) (S:=S) ?_ g HX.out HO.out dj).mono ?_;exact HR.out.aI;rintro e w1 ⟨⟨cv,rfl,gE⟩,A1⟩;obtain⟨ca,cc,rfl⟩:=dm.shape gE;have iv:=ag ((AB.qn A1).alloc (eD o ca cc));clear A1 gE)|(go_at_call 84;refine(sB (af:=af) (F:=F) (m0:=m) (w0:=w) (m:=m) (L:=[(w1.heap.size,eD o ca cc)]) (S:=S) ?_ HX.out).mono ?_;exact iv.out.aI;rintro e wN ⟨rfl,mN,X⟩;have RN:=X.bj;obtain⟨q0,q1,q2,q3,q4,q5⟩:=jD X.head;have nb1:=X.ne RN.aB.gs;have nb2:=X.ne RN.aB.al;have d3:=RN.eu;have d2:=RN.dM;have l1:=RN.lt RN.aB.gs;have l2:=RN.lt RN.aB.al;have n1:=RN.ne RN.aB.al RN.aB.gs;have n2:=n1.symm;have r5:=RN.g (az HX.out) 5 _ rfl;have fr5:=RN.frozen RN.aB.gs (g*25+5);have r2:=RN.g (az HX.out) 2 _ rfl;have Au:=RN.frozen RN.aB.gs (g*25+2);have Me:g<(S.ay g (bu x)).gs.length:=(uC (az HX.out)).1;have Y1:=X.g (az HX.out) {bu x with call:=S.av} (q:=5) (v:=I S.av);rw[aA]at Y1;have HY:=ag Y1;clear X Y1 RN)|(go_at_call 138;refine(uh (af:=af) (F:=F) (m0:=m) (w0:=w) (m:=mN) (S:=S.ay g {bu x with call:=S.av}) (L:=[(w1.heap.size,eD o ca cc)]) ?_ o.ch).mono ?_;exact HY.out.aI;rintro e wM ⟨he,rfl⟩;rw[show cZ (S.ay g {bu x with call:=S.av}) o.ch=_ from MF.out]at he;subst he)|(go_at_call 139;refine(Qq (af:=af) (F:=F) (m0:=m) (w0:=w) (m:=mN) (S:=S.ay g {bu x with call:=S.av}) (L:=[(w1.heap.size,eD o ca cc)]) ?_ g HS.out).mono ?_;exact HY.out.aI;rintro e wK ⟨rfl,AK⟩;have HZ:=ag AK.at_;clear AK));go_end0;exact⟨rfl,_,HZ.out⟩
theorem DX(R:bz af F w m S)(g:Nat)(x:bI)(hx:S.gs[g]?=some x)(ks:0≤x.at_∧x.at_<x.ops.length)(o:cu)(ho:dH S g=o)(dj:o.cases.length≤1000)(cd:Int)(gv:cZ S o.ch=false)(S':Wd)(hS:Nc (S.ay g {bu x with call:=S.av}) g cd=some S')(hk:(o.ai=4∧cd=2)∨(o.ai=5∧cd=2)∨(o.ai=6∧cd=5)):Calls prog 89 #[bR F,I g] w (ee (To af F m w S')):=by
 have eM:=cA hx;have c3:=R.eu;obtain⟨a0,c0,Gm⟩:=mE R hx;have p0:=R.g0 hx;rw[Gm]at p0;have p1:=R.g hx 1 _ rfl;have cm:=R.lt R.aB.gs;have aU:=R.lt R.aB.al;obtain⟨n0,vN⟩:=dC (x.ops.length);rw[←vN]at p0;have Qr:decide ((n0:Int)≤x.at_)=false:=by simp;omega
 have TP:=R.heap (w':=w) (fun _ _ _=>rfl);have xW:=ag R.eS;have HR:=ag (At.refl R);obtain⟨HX,HO,MF,HS⟩:=ia hx ho gv hS;rcases hk with⟨hk,rfl⟩|⟨hk,rfl⟩|⟨hk,rfl⟩
 all_goals
  first|have jg:(o.ai==1)=false:=by rw[hk];rfl|have jg:(o.ai==1)=true:=by rw[hk];rfl
  first|have TH:(o.ai==7)=false:=by rw[hk];rfl|have TH:(o.ai==7)=true:=by rw[hk];rfl
  first|have TI:(o.ai==8)=false:=by rw[hk];rfl|have TI:(o.ai==8)=true:=by rw[hk];rfl
  first|have jO:(o.ai==2)=false:=by rw[hk];rfl|have jO:(o.ai==2)=true:=by rw[hk];rfl
  first|have sk:(o.ai==3)=false:=by rw[hk];rfl|have sk:(o.ai==3)=true:=by rw[hk];rfl
  first|have Eu:(o.ai==4)=false:=by rw[hk];rfl|have Eu:(o.ai==4)=true:=by rw[hk];rfl
  first|have Qs:(o.ai==5)=false:=by rw[hk];rfl|have Qs:(o.ai==5)=true:=by rw[hk];rfl
  first|have Qt:(o.ai==6)=false:=by rw[hk];rfl|have Qt:(o.ai==6)=true:=by rw[hk];rfl
  first|have oz:(o.ai==9)=false:=by rw[hk];rfl|have oz:(o.ai==9)=true:=by rw[hk];rfl
  clear R hx ho hk gv hS Gm vN TP;unfold bR;go_enter func89,ntmps89;go_wp2_with fail
  go_quiet (fail);go_wp2_with (first|(go_at_call 92;refine(dw (af:=af) (F:=F) (m0:=m) (w0:=w) (m:=m) (S:=S) ?_ g HX.out HO.out dj).mono ?_;exact HR.out.aI;rintro e w1 ⟨⟨cv,rfl,gE⟩,A1⟩;obtain⟨ca,cc,rfl⟩:=dm.shape gE;have iv:=ag ((AB.qn A1).alloc (eD o ca cc));clear A1 gE)|(go_at_call 84;refine(sB (af:=af) (F:=F) (m0:=m) (w0:=w) (m:=m) (L:=[(w1.heap.size,eD o ca cc)]) (S:=S) ?_ HX.out).mono ?_;exact iv.out.aI;rintro e wN ⟨rfl,mN,X⟩;have RN:=X.bj;obtain⟨q0,q1,q2,q3,q4,q5⟩:=jD X.head;have nb1:=X.ne RN.aB.gs;have nb2:=X.ne RN.aB.al;have d3:=RN.eu;have d2:=RN.dM;have l1:=RN.lt RN.aB.gs;have l2:=RN.lt RN.aB.al;have n1:=RN.ne RN.aB.al RN.aB.gs;have n2:=n1.symm;have r5:=RN.g (az HX.out) 5 _ rfl;have fr5:=RN.frozen RN.aB.gs (g*25+5);have r2:=RN.g (az HX.out) 2 _ rfl;have Au:=RN.frozen RN.aB.gs (g*25+2);have Me:g<(S.ay g (bu x)).gs.length:=(uC (az HX.out)).1;have Y1:=X.g (az HX.out) {bu x with call:=S.av} (q:=5) (v:=I S.av);rw[aA]at Y1;have HY:=ag Y1;clear X Y1 RN)|(go_at_call 138;refine(uh (af:=af) (F:=F) (m0:=m) (w0:=w) (m:=mN) (S:=S.ay g {bu x with call:=S.av}) (L:=[(w1.heap.size,eD o ca cc)]) ?_ o.ch).mono ?_;exact HY.out.aI;rintro e wM ⟨he,rfl⟩;rw[show cZ (S.ay g {bu x with call:=S.av}) o.ch=_ from MF.out]at he;subst he)|(go_at_call 140;refine(W4 (af:=af) (F:=F) (m0:=m) (w0:=w) (m:=mN) (S:=S.ay g {bu x with call:=S.av}) (L:=[(w1.heap.size,eD o ca cc)]) ?_ g _ HS.out).mono ?_;exact HY.out.aI;rintro e wK ⟨rfl,AK⟩;have HZ:=ag AK.at_;clear AK));go_end0;exact⟨rfl,_,HZ.out⟩
theorem Qu(R:bz af F w m S)(g:Nat)(x:bI)(hx:S.gs[g]?=some x)(ks:0≤x.at_∧x.at_<x.ops.length)(o:cu)(ho:dH S g=o)(dj:o.cases.length≤1000)(hk:o.ai=9)(b:Bool)(gv:cZ S o.ch=b)(hl:∀v∈S.list,0≤v∧v≤65535)(h0:0≤S.drawn∧S.drawn≤100000)(S':Wd)(hS:gM (S.ay g {bu x with call:=S.av}) g o=some S')(cM:o.cases≠[]):Calls prog 89 #[bR F,I g] w (ee (To af F m w S')):=by
 have eM:=cA hx;have c3:=R.eu;obtain⟨a0,c0,Gm⟩:=mE R hx;have p0:=R.g0 hx;rw[Gm]at p0;have p1:=R.g hx 1 _ rfl;have cm:=R.lt R.aB.gs;have aU:=R.lt R.aB.al;obtain⟨n0,vN⟩:=dC (x.ops.length);rw[←vN]at p0;have Qr:decide ((n0:Int)≤x.at_)=false:=by simp;omega
 have TP:=R.heap (w':=w) (fun _ _ _=>rfl);have jg:(o.ai==1)=false:=by rw[hk];rfl
 have TH:(o.ai==7)=false:=by rw[hk];rfl
 have TI:(o.ai==8)=false:=by rw[hk];rfl
 have jO:(o.ai==2)=false:=by rw[hk];rfl
 have sk:(o.ai==3)=false:=by rw[hk];rfl
 have Eu:(o.ai==4)=false:=by rw[hk];rfl
 have Qs:(o.ai==5)=false:=by rw[hk];rfl
 have Qt:(o.ai==6)=false:=by rw[hk];rfl
 have oz:(o.ai==9)=true:=by rw[hk];rfl
 have xW:=ag R.eS;have HR:=ag (At.refl R);obtain⟨HX,HO,MF,HS⟩:=ia hx ho gv hS;have NA:=ag cM;have Bg:=ag R;clear R hx ho hk gv hS Gm vN TP cM;unfold bR;go_enter func89,ntmps89;go_wp2_with fail
 go_quiet (fail);go_wp2_with (first|(go_at_call 92;refine(dw (af:=af) (F:=F) (m0:=m) (w0:=w) (m:=m) (S:=S) ?_ g HX.out HO.out dj).mono ?_;exact HR.out.aI;rintro e w1 ⟨⟨cv,rfl,gE⟩,A1⟩;obtain⟨nb,cc,ob,rfl,fP,XB⟩:=gE.block A1 Bg.out (Nat.le_refl w.heap.size) NA.out;have KK:=ag fP;have iv:=ag (XB.alloc (eD o (some ⟨nb,0,none⟩) cc));clear A1 gE XB fP)|(go_at_call 84;refine(sB (af:=af) (F:=F) (m0:=m) (w0:=w) (m:=m) (L:=[(w1.heap.size,eD o (some ⟨nb,0,none⟩) cc),(nb,ob)]) (S:=S) ?_ HX.out).mono ?_;exact iv.out.aI;rintro e wN ⟨rfl,mN,X⟩;have RN:=X.bj;obtain⟨q0,q1,q2,q3,q4,q5⟩:=jD X.head;have nb1:=X.ne RN.aB.gs;have nb2:=X.ne RN.aB.al;have d3:=RN.eu;have d2:=RN.dM;have l1:=RN.lt RN.aB.gs;have l2:=RN.lt RN.aB.al;have n1:=RN.ne RN.aB.al RN.aB.gs;have n2:=n1.symm;have r5:=RN.g (az HX.out) 5 _ rfl;have fr5:=RN.frozen RN.aB.gs (g*25+5);have r2:=RN.g (az HX.out) 2 _ rfl;have Au:=RN.frozen RN.aB.gs (g*25+2);have Me:g<(S.ay g (bu x)).gs.length:=(uC (az HX.out)).1;have Y1:=X.g (az HX.out) {bu x with call:=S.av} (q:=5) (v:=I S.av);rw[aA]at Y1;have HY:=ag Y1;clear X Y1 RN)|(go_at_call 138;refine(uh (af:=af) (F:=F) (m0:=m) (w0:=w) (m:=mN) (S:=S.ay g {bu x with call:=S.av}) (L:=[(w1.heap.size,eD o (some ⟨nb,0,none⟩) cc),(nb,ob)]) ?_ o.ch).mono ?_;exact HY.out.aI;rintro e wM ⟨he,rfl⟩;rw[show cZ (S.ay g {bu x with call:=S.av}) o.ch=b from MF.out]at he;subst he)|(go_at_call 141;refine(sC (af:=af) (F:=F) (m0:=m) (w0:=w) (m:=mN) (S:=S.ay g {bu x with call:=S.av}) (L:=[(w1.heap.size,eD o (some ⟨nb,0,none⟩) cc),(nb,ob)]) ?_ dj hl h0 (some ⟨nb,0,none⟩) cc (.inr ⟨nb,ob,rfl,by simp,KK.out⟩) HS.out).mono ?_;exact HY.out.aI;rintro e wK ⟨rfl,HZ⟩));go_end0;exact⟨rfl,HZ⟩
theorem Qv(R:bz af F w m S)(g:Nat)(x:bI)(hx:S.gs[g]?=some x)(ks:0≤x.at_∧x.at_<x.ops.length)(o:cu)(ho:dH S g=o)(dj:o.cases.length≤1000)(hk:o.ai=9)(b:Bool)(gv:cZ S o.ch=b)(hl:∀v∈S.list,0≤v∧v≤65535)(h0:0≤S.drawn∧S.drawn≤100000)(S':Wd)(hS:gM (S.ay g {bu x with call:=S.av}) g o=some S')(cM:o.cases=[]):Calls prog 89 #[bR F,I g] w (ee (To af F m w S')):=by
 have eM:=cA hx;have c3:=R.eu;obtain⟨a0,c0,Gm⟩:=mE R hx;have p0:=R.g0 hx;rw[Gm]at p0;have p1:=R.g hx 1 _ rfl;have cm:=R.lt R.aB.gs;have aU:=R.lt R.aB.al;obtain⟨n0,vN⟩:=dC (x.ops.length);rw[←vN]at p0;have Qr:decide ((n0:Int)≤x.at_)=false:=by simp;omega
 have TP:=R.heap (w':=w) (fun _ _ _=>rfl);have jg:(o.ai==1)=false:=by rw[hk];rfl
 have TH:(o.ai==7)=false:=by rw[hk];rfl
 have TI:(o.ai==8)=false:=by rw[hk];rfl
 have jO:(o.ai==2)=false:=by rw[hk];rfl
 have sk:(o.ai==3)=false:=by rw[hk];rfl
 have Eu:(o.ai==4)=false:=by rw[hk];rfl
 have Qs:(o.ai==5)=false:=by rw[hk];rfl
 have Qt:(o.ai==6)=false:=by rw[hk];rfl
 have oz:(o.ai==9)=true:=by rw[hk];rfl
 have xW:=ag R.eS;have HR:=ag (At.refl R);obtain⟨HX,HO,MF,HS⟩:=ia hx ho gv hS;have NA:=ag cM;have Bg:=ag R;clear R hx ho hk gv hS Gm vN TP cM;unfold bR;go_enter func89,ntmps89;go_wp2_with fail
 go_quiet (fail);go_wp2_with (first|(go_at_call 92;refine(dw (af:=af) (F:=F) (m0:=m) (w0:=w) (m:=m) (S:=S) ?_ g HX.out HO.out dj).mono ?_;exact HR.out.aI;rintro e w1 ⟨⟨cv,rfl,gE⟩,A1⟩;obtain⟨ca,cc,rfl⟩:=dm.shape gE;have iv:=ag ((AB.qn A1).alloc (eD o ca cc));clear A1 gE)|(go_at_call 84;refine(sB (af:=af) (F:=F) (m0:=m) (w0:=w) (m:=m) (L:=[(w1.heap.size,eD o ca cc)]) (S:=S) ?_ HX.out).mono ?_;exact iv.out.aI;rintro e wN ⟨rfl,mN,X⟩;have RN:=X.bj;obtain⟨q0,q1,q2,q3,q4,q5⟩:=jD X.head;have nb1:=X.ne RN.aB.gs;have nb2:=X.ne RN.aB.al;have d3:=RN.eu;have d2:=RN.dM;have l1:=RN.lt RN.aB.gs;have l2:=RN.lt RN.aB.al;have n1:=RN.ne RN.aB.al RN.aB.gs;have n2:=n1.symm;have r5:=RN.g (az HX.out) 5 _ rfl;have fr5:=RN.frozen RN.aB.gs (g*25+5);have r2:=RN.g (az HX.out) 2 _ rfl;have Au:=RN.frozen RN.aB.gs (g*25+2);have Me:g<(S.ay g (bu x)).gs.length:=(uC (az HX.out)).1;have Y1:=X.g (az HX.out) {bu x with call:=S.av} (q:=5) (v:=I S.av);rw[aA]at Y1;have HY:=ag Y1;clear X Y1 RN)|(go_at_call 138;refine(uh (af:=af) (F:=F) (m0:=m) (w0:=w) (m:=mN) (S:=S.ay g {bu x with call:=S.av}) (L:=[(w1.heap.size,eD o ca cc)]) ?_ o.ch).mono ?_;exact HY.out.aI;rintro e wM ⟨he,rfl⟩;rw[show cZ (S.ay g {bu x with call:=S.av}) o.ch=b from MF.out]at he;subst he)|(go_at_call 141;refine(sC (af:=af) (F:=F) (m0:=m) (w0:=w) (m:=mN) (S:=S.ay g {bu x with call:=S.av}) (L:=[(w1.heap.size,eD o ca cc)]) ?_ dj hl h0 ca cc (.inl NA.out) HS.out).mono ?_;exact HY.out.aI;rintro e wK ⟨rfl,HZ⟩));go_end0;exact⟨rfl,HZ⟩
end
section
variable{af g:Nat}{F:Fx}{w w0 w':World}{m m0 m':Mem}{S S':Wd}{L:List (Nat×Obj)}
theorem W5(A:At af F m0 w0 m w S)(g:Int):Calls prog 137 #[.pointer (some ⟨F.dB,0,none⟩),I g] w fun e w'=>(∃b,e=.returned (.bool b))∧At af F m0 w0 m w' {S with ax:=(Av S.ax g).1}:=
 (PZ A.bj g).mono fun e w' ⟨h1,h2⟩=>⟨⟨_,h1⟩,A.cont h2⟩
theorem MH(R:bz af F w m S)(g:Nat)(x:bI)(hx:S.gs[g]?=some x)(ks:(x.ops.length:Int)≤x.at_):Calls prog 89 #[bR F,I g] w (ee fun w'=>To af F m w {S with ax:=(Av S.ax g).1} w'):=by
 have eM:=cA hx;have c3:=R.eu;have c4:=R.nJ;obtain⟨a0,c0,Gm⟩:=mE R hx;have p0:=R.g0 hx;rw[Gm]at p0;have p1:=R.g hx 1 _ rfl;have cm:=R.lt R.aB.gs;have aU:=R.lt R.aB.al;obtain⟨n0,vN⟩:=dC (x.ops.length);rw[←vN]at p0;have Qr:decide ((n0:Int)≤x.at_)=true:=by simp;omega
 have HR:=ag (At.refl R);clear R hx Gm vN;unfold bR;go_enter func89,ntmps89;go_wp2_with fail
 go_quiet (fail);go_wp2_with (go_at_call 137;refine(W5 (af:=af) (F:=F) (m0:=m) (w0:=w) (m:=m) (S:=S) ?_ g).mono ?_;exact HR.out.aI;rintro e w1 ⟨⟨b,rfl⟩,A1⟩;have HA:=ag A1;clear A1);refine bodyPost_ret (results_none rfl _ _ _) rfl ?_;exact⟨rfl,_,HA.out⟩
theorem Jq(R:bz af F w m S)(g:Nat)(x:bI)(hx:S.gs[g]?=some x)(h0:0≤x.at_)(LB:1≤(dH S g).ai∧(dH S g).ai≤9∨(x.ops.length:Int)≤x.at_)(hl:∀v∈S.list,0≤v∧v≤65535)(hd:0≤S.drawn∧S.drawn≤100000)(S':Wd)(hm:jT S g=some S'):Calls prog 89 #[.pointer (some ⟨F.al,0,none⟩),I g] w (ee (To af F m w S')):=by
 unfold jT at hm;simp only[bW,cI,hx,oZ,exists_eq_left']at hm;by_cases ks:(x.ops.length:Int)≤x.at_
 ·rw[aF ks]at hm
  cases hm;exact MH R g x hx ks
 rw[aE ks]at hm;simp only[cI]at hm;obtain⟨o,eK,hm⟩:=hm;obtain⟨ho,bO,dj⟩:=nB eK;rw[ho]at LB;have ui:0≤x.at_∧x.at_<x.ops.length:=by omega
 have LB:1≤o.ai∧o.ai≤9:=by omega
 have sN:cZ S o.ch=true∨cZ S o.ch=false:=by cases cZ S o.ch<;>simp
 have sp:∀p S',cD (S.ay g {bu x with call:=S.av}) g p=some S'→S'=S.ay g {bu x with call:=S.av,ae:=p}:=by
  intro p S' h;obtain⟨x2,kt,rfl⟩:=dr h;rw[az hx]at kt
  cases kt;rw[aA]
 by_cases h1:o.ai=1∨o.ai=7∨o.ai=8
 ·rw[aF h1]at hm;have e:=sp _ _ hm;rcases h1 with h|h|h
  ·exact pw R g x hx ui o ho dj _ _ rfl S' e (by simp[h])
  ·exact pw R g x hx ui o ho dj _ _ rfl S' e (by simp[h])
  ·exact pw R g x hx ui o ho dj _ _ rfl S' e (by simp[h])
 rw[aE h1]at hm;by_cases h2:o.ai=2∨o.ai=3
 ·rw[aF h2]at hm;rcases sN with hk|hk
  ·rw[hk,aF rfl]at hm;have e:=sp _ _ hm;rcases h2 with h|h
   ·exact pw R g x hx ui o ho dj _ _ hk S' e (by simp[h])
   ·exact pw R g x hx ui o ho dj _ _ hk S' e (by simp[h])
  ·rw[hk,aE (by simp)]at hm;rcases h2 with h|h
   ·exact KJ R g x hx ui o ho dj hk S' hm (by simp[h])
   ·exact KJ R g x hx ui o ho dj hk S' hm (by simp[h])
 rw[aE h2]at hm;by_cases h3:o.ai=4∨o.ai=5
 ·rw[aF h3]at hm;rcases sN with hk|hk
  ·rw[hk,aF rfl]at hm;have e:=sp _ _ hm;rcases h3 with h|h
   ·exact pw R g x hx ui o ho dj _ _ hk S' e (by simp[h])
   ·exact pw R g x hx ui o ho dj _ _ hk S' e (by simp[h])
  ·rw[hk,aE (by simp)]at hm;rcases h3 with h|h
   ·exact DX R g x hx ui o ho dj _ hk S' hm (by simp[h])
   ·exact DX R g x hx ui o ho dj _ hk S' hm (by simp[h])
 rw[aE h3]at hm;by_cases h4:o.ai=6
 ·rw[aF h4]at hm;rcases sN with hk|hk
  ·rw[hk,aF rfl]at hm;exact pw R g x hx ui o ho dj _ _ hk S' (sp _ _ hm) (by simp[h4])
  ·rw[hk,aE (by simp)]at hm;exact DX R g x hx ui o ho dj _ hk S' hm (by simp[h4])
 rw[aE h4]at hm;have h5:o.ai=9:=by omega
 rw[aF h5]at hm;by_cases hc:o.cases=[]
 ·exact Qv R g x hx ui o ho dj h5 _ rfl hl hd S' hm hc
 ·exact Qu R g x hx ui o ho dj h5 _ rfl hl hd S' hm hc
structure zP(S:Wd)(g:Nat):Prop where
 aq:S.aq.length=S.au.length
 aO:S.aO.length=S.au.length
 list:∀v∈S.list,0≤v∧v≤65535
 drawn:0≤S.drawn∧S.drawn≤100000
 begin:∀x,S.gs[g]?=some x→x.ae=0→0≤x.at_∧(1≤(dH S g).ai∧(dH S g).ai≤9∨(x.ops.length:Int)≤x.at_)
 do_:∀x,S.gs[g]?=some x→x.ae=20→(dH S g).ai=1∨(dH S g).ai=7∨(dH S g).ai=8
theorem Qw(T:To af F m0 w0 S w)(aG:zP S g){x:bI}(hx:S.gs[g]?=some x)(hp:x.ae=0){S':Wd}(hm:jT S g=some S'):Calls prog 89 #[.pointer (some ⟨F.al,0,none⟩),I g] w (ee (To af F m0 w0 S')):=by
 obtain⟨m,A⟩:=T;exact(Jq A.bj g x hx (aG.begin x hx hp).1 (aG.begin x hx hp).2 aG.list aG.drawn S' hm).mono fun e w' ⟨h1,m',h2⟩=>⟨h1,m',A.cont h2⟩
theorem af3(T:To af F m0 w0 S w)(aG:zP S g){x:bI}(hx:S.gs[g]?=some x)(hp:x.ae=20){S':Wd}(hm:KZ S g=some S'):Calls prog 90 #[.pointer (some ⟨F.al,0,none⟩),I g] w (ee (To af F m0 w0 S')):=by
 obtain⟨m,A⟩:=T;exact(TJ A.bj aG.aq aG.aO g (aG.do_ x hx hp) S' hm).mono fun e w' ⟨h1,m',h2⟩=>⟨h1,m',A.cont h2⟩
theorem MI(T:To af F m0 w0 S w){S':Wd}(hm:mL S g=some S'):Calls prog 91 #[.pointer (some ⟨F.al,0,none⟩),I g] w (ee (To af F m0 w0 S')):=by
 obtain⟨m,A⟩:=T;exact(FN A.bj g S' hm).mono fun e w' ⟨h1,m',h2⟩=>⟨h1,m',A.cont h2⟩
theorem TQ(R:bz af F w m S)(aG:zP S g)(x:bI)(hx:S.gs[g]?=some x)(hp:x.ae=0)(S':Wd)(hm:jT S g=some S'):Calls prog 60 #[bR F,I g] w (oV (To af F m w S')):=by
 have eM:=cA hx;have c3:=R.eu;have p2:=R.g hx 2 _ rfl;rw[hp]at p2;have cm:=R.lt R.aB.gs;have aU:=R.lt R.aB.al;obtain⟨HR,HX,HP,HM,HG⟩:=jW R.to hx hp hm aG;clear R hx hp hm aG;unfold bR;go_enter func60,ntmps60;go_wp2_with (go_at_call 89;refine(Qw HR.out HG.out HX.out HP.out HM.out).mono ?_;rintro e w1 ⟨rfl,T⟩;have HT:=ag T;clear T);go_ret;exact⟨rfl,HT.out⟩
theorem Qx(R:bz af F w m S)(aG:zP S g)(x:bI)(hx:S.gs[g]?=some x)(hp:x.ae=20)(S':Wd)(hm:KZ S g=some S'):Calls prog 60 #[bR F,I g] w (oV (To af F m w S')):=by
 have eM:=cA hx;have c3:=R.eu;have p2:=R.g hx 2 _ rfl;rw[hp]at p2;have cm:=R.lt R.aB.gs;have aU:=R.lt R.aB.al;obtain⟨HR,HX,HP,HM,HG⟩:=jW R.to hx hp hm aG;clear R hx hp hm aG;unfold bR;go_enter func60,ntmps60;go_wp2_with (go_at_call 90;refine(af3 HR.out HG.out HX.out HP.out HM.out).mono ?_;rintro e w1 ⟨rfl,T⟩;have HT:=ag T;clear T);go_ret;exact⟨rfl,HT.out⟩
theorem Qy(R:bz af F w m S)(x:bI)(hx:S.gs[g]?=some x)(hp:x.ae=18)(S':Wd)(hm:mL S g=some S'):Calls prog 60 #[bR F,I g] w (oV (To af F m w S')):=by
 have eM:=cA hx;have c3:=R.eu;have p2:=R.g hx 2 _ rfl;rw[hp]at p2;have cm:=R.lt R.aB.gs;have aU:=R.lt R.aB.al;obtain⟨HR,HM⟩:=dA R.to hm;clear R hx hp hm;unfold bR;go_enter func60,ntmps60;go_wp2_with (go_at_call 91;refine(MI HR.out HM.out).mono ?_;rintro e w1 ⟨rfl,T⟩;have HT:=ag T;clear T);go_ret;exact⟨rfl,HT.out⟩
theorem vp(R:bz af F w m S)(x:bI)(hx:S.gs[g]?=some x)(hp:x.ae≠0∧x.ae≠20∧x.ae≠18):Calls prog 60 #[bR F,I g] w (eL (.bool false) fun w'=>w=w'):=by
 have eM:=cA hx;have c3:=R.eu;have p2:=R.g hx 2 _ rfl;have e0:(x.ae==0)=false:=by simpa using hp.1
 have e1:(x.ae==20)=false:=by simpa using hp.2.1
 have e2:(x.ae==18)=false:=by simpa using hp.2.2
 have cm:=R.lt R.aB.gs;have aU:=R.lt R.aB.al;clear R hx hp;unfold bR;go_enter func60,ntmps60;go_wp2_with fail
 go_ret;exact⟨rfl,rfl⟩
end
end Go.Proofs.YtadifmnmfnihdaaGreat
