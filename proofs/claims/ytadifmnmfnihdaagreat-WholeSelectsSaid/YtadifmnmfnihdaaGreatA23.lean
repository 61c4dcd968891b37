import Derived.Test.YtadifmnmfnihdaaGreatA17
import Derived.Test.YtadifmnmfnihdaaGreatA21
import Derived.Test.YtadifmnmfnihdaaGreatA22
set_option linter.all false
set_option maxRecDepth 100000
set_option maxHeartbeats 40000000
namespace Go.Proofs.YtadifmnmfnihdaaGreat.V
open Mach
section
variable{w w' w2:Wd}{ls:List (List Nat)}{g z s C:Nat}{x x' xA y:bI}{sd:gn}{o:cu}
theorem Cj{k p:Int}(h:bG k p=true)(hk:1≤k∧k≤5)(hp:0≤p∧p≤34):p≤20:=by
 by_cases hh:20<p
 ·exfalso;have:p=21∨p=22∨p=23∨p=24∨p=25∨p=26∨p=27∨p=28∨p=29∨p=30∨p=31∨p=32∨p=33∨p=34:=by omega
  rcases this with rfl|rfl|rfl|rfl|rfl|rfl|rfl|rfl|rfl|rfl|rfl|rfl|rfl|rfl<;>simp[bG]at h<;>omega
 ·omega
theorem tv(I:Inv w ls)(hx:w.gs[g]?=some x)(hs:ea w g)(hk:2≤(aP x).ai∧(aP x).ai≤5)(hp:x.ae=6):∃w',cD w g 9=some w'∧Inv w' ls∧bK w w':=by
 obtain⟨m1,m2,m3⟩:=M.s6 (I.loc g x hx) hk hp;obtain⟨b,c⟩:=I.ku hx hs m1 ⟨by simp,by simp⟩ m2 m3 rfl;exact⟨_,by unfold cD fL;rw[hx];rfl,b,c⟩
theorem DO(I:Inv w ls)(hx:w.gs[g]?=some x)(hs:ea w g)(hk:(aP x).ai=2∨(aP x).ai=4)(h0:x.ae≠0∧x.ae≠18∧x.ae≠19∧x.ae≠20):∃w' fM,jq w g=some (w',true)∧Inv w' fM∧bK w w':=by
 have L:=I.loc g x hx;obtain⟨ho,hR⟩:=pj I hx h0.1;have pM:=L.kp h0.1;have kM:=L.pl;have fin:∀{a:Option Wd},(∃w',a=some w'∧Inv w' ls∧bK w w')→∃w' fM,yes a=some (w',true)∧Inv w' fM∧bK w w':=fun⟨w',a,b,c⟩=>⟨w',ls,nN a,b,c⟩
 have r7:∀{a:Option Wd},(∃w' fM,a=some w'∧Inv w' fM∧bK w w')→∃w' fM,yes a=some (w',true)∧Inv w' fM∧bK w w':=fun⟨w',fM,a,b,c⟩=>⟨w',fM,nN a,b,c⟩
 have k2:x.ae=10∨x.ae=11∨x.ae=14→(aP x).ai=2:=fun h=>by
  rcases hk with hk|hk
  ·exact hk
  ·rw[hk]at pM;rcases h with h|h|h<;>rw[h]at pM<;>simp[bG]at pM
 have k4:x.ae=1∨x.ae=2→(aP x).ai=4:=fun h=>by
  rcases hk with hk|hk
  ·rw[hk]at pM;rcases h with h|h<;>rw[h]at pM<;>simp[bG]at pM
  ·exact hk
 unfold jq;simp only[ho,hx,bW,eN];rw[aE (by omega)];by_cases h1:x.ae=1
 ·rw[aF h1];exact fin (Df I hx hs (k4 (.inl h1)) h1)
 rw[aE h1];by_cases h:x.ae=2
 ·rw[aF h];exact fin (AR I hx hs (k4 (.inr h)) h)
 rw[aE h];by_cases h5:x.ae=5
 ·rw[aF h5];exact fin (AS I hx hs hk h5)
 rw[aE h5];by_cases h6:x.ae=6
 ·rw[aF h6];rcases Cc I hx hs (by omega) h6 (.inl rfl)with e|⟨w',fM,e,b,c⟩
  ·simp only[e,eN,nW,dF];exact fin (tv I hx hs (by omega) h6)
  ·simp only[e,eN,dt];exact⟨w',fM,rfl,b,c⟩
 rw[aE h6];by_cases h7:x.ae=7
 ·rw[aF h7];exact r7 (FG I hx hs (by omega) h7)
 rw[aE h7];by_cases h8:x.ae=8
 ·rw[aF h8];exact r7 (Dq I hx hs hk h8 _)
 rw[aE h8];by_cases h9:x.ae=9
 ·rw[aF h9];exact fin (qL I hx hs hk h9)
 rw[aE h9];by_cases ph:x.ae=10
 ·have jO:=k2 (.inl ph);rw[aF ph];exact fin (FJ I hx hs (.inl jO) ph _ rfl rfl rfl rfl (by rw[jO];rfl))
 rw[aE ph];by_cases rA:x.ae=11
 ·have jO:=k2 (.inr (.inl rA));rw[aF rA];exact r7 (Cd I hx hs (.inl jO) rA (by rw[aF jO]))
 rw[aE rA];by_cases Dp:x.ae=14
 ·rw[aF Dp];exact fin (Dk I hx hs (k2 (.inr (.inr Dp))) Dp)
 rw[aE Dp];refine ud I hx hs (by omega) ?_;have h3:x.ae≠3:=fun e=>by rw[e]at pM;rcases hk with hk|hk<;>rw[hk]at pM<;>simp[bG]at pM
 have dD:=Cj pM (by omega) kM;omega
theorem zB(I:Inv w ls)(hx:w.gs[g]?=some x)(hs:ea w g)(hk:(aP x).ai=3∨(aP x).ai=5)(hp:x.ae=5∨x.ae=6∨x.ae=7∨x.ae=8∨x.ae=9):∃w' fM,iE w g (aP x)=some w'∧Inv w' fM∧bK w w':=by
 have fin:∀{a:Option Wd},(∃w',a=some w'∧Inv w' ls∧bK w w')→∃w' fM,a=some w'∧Inv w' fM∧bK w w':=fun⟨w',a,b,c⟩=>⟨w',ls,a,b,c⟩
 unfold iE;simp only[hx,bW,eN];by_cases h5:x.ae=5
 ·rw[aF h5];exact fin (AT I hx hs hk h5)
 rw[aE h5];by_cases h6:x.ae=6
 ·rw[aF h6];rcases Cc I hx hs (by omega) h6 (.inr rfl)with e|⟨w',fM,e,b,c⟩
  ·simp only[e,eN,nW,dF];exact fin (tv I hx hs (by omega) h6)
  ·simp only[e,eN,dt];exact⟨w',fM,rfl,b,c⟩
 rw[aE h6];by_cases h7:x.ae=7
 ·rw[aF h7];exact FG I hx hs (by omega) h7
 rw[aE h7];by_cases h8:x.ae=8
 ·rw[aF h8];exact Dr I hx hs hk h8
 rw[aE h8];exact fin (qM I hx hs hk (by omega))
theorem DP(I:Inv w ls)(hx:w.gs[g]?=some x)(hs:ea w g)(hk:(aP x).ai=3∨(aP x).ai=5)(h0:x.ae≠0∧x.ae≠18∧x.ae≠19∧x.ae≠20):∃w' fM,jr w g=some (w',true)∧Inv w' fM∧bK w w':=by
 have L:=I.loc g x hx;obtain⟨ho,hR⟩:=pj I hx h0.1;have pM:=L.kp h0.1;have kM:=L.pl;have dD:=Cj pM (by omega) kM;have fin:∀{a:Option Wd},(∃w',a=some w'∧Inv w' ls∧bK w w')→∃w' fM,yes a=some (w',true)∧Inv w' fM∧bK w w':=fun⟨w',a,b,c⟩=>⟨w',ls,nN a,b,c⟩
 have r7:∀{a:Option Wd},(∃w' fM,a=some w'∧Inv w' fM∧bK w w')→∃w' fM,yes a=some (w',true)∧Inv w' fM∧bK w w':=fun⟨w',fM,a,b,c⟩=>⟨w',fM,nN a,b,c⟩
 have k3:x.ae=10∨x.ae=11∨x.ae=14→(aP x).ai=3:=fun h=>by
  rcases hk with hk|hk
  ·exact hk
  ·rw[hk]at pM;rcases h with h|h|h<;>rw[h]at pM<;>simp[bG]at pM
 have k5:x.ae=1∨x.ae=2∨x.ae=3→(aP x).ai=5:=fun h=>by
  rcases hk with hk|hk
  ·rw[hk]at pM;rcases h with h|h|h<;>rw[h]at pM<;>simp[bG]at pM
  ·exact hk
 unfold jr;simp only[ho,hx,bW,eN];rw[aE (by omega)];by_cases hc:x.ae=4∨x.ae=12∨x.ae=13∨x.ae=15∨x.ae=16∨x.ae=17
 ·rw[aF (by simpa[eO]using hc)];exact ud I hx hs (by omega) hc
 rw[aE (by simpa[eO]using hc)];by_cases h1:x.ae=1∨x.ae=2∨x.ae=3
 ·rw[aF h1];exact fin (Dh I hx hs (k5 h1) h1)
 rw[aE h1];by_cases h5:x.ae=5∨x.ae=6∨x.ae=7∨x.ae=8∨x.ae=9
 ·rw[aF h5];exact r7 (zB I hx hs hk h5)
 rw[aE h5];have ph:x.ae=10∨x.ae=11∨x.ae=14:=by omega
 have sk:=k3 ph;rw[aF ph];refine r7 ?_;by_cases Dp:x.ae=14
 ·obtain⟨w',a,b,c⟩:=Dl I hx hs sk Dp (aP x).ch;exact⟨w',ls,a,b,c⟩
 unfold j1;simp only[hx,bW,eN];by_cases WT:x.ae=10
 ·rw[aF WT];obtain⟨w',a,b,c⟩:=FJ I hx hs (.inr sk) WT {cK:=true,g:=g,ch:=(aP x).ch,case:= -1} rfl rfl rfl rfl (by rw[sk];rfl);exact⟨w',ls,a,b,c⟩
 rw[aE WT,aF (by omega)];exact Cd I hx hs (.inr sk) (by omega) (by rw[aE (by omega)])
theorem DQ(I:Inv w ls)(hx:w.gs[g]?=some x)(hs:ea w g)(hk:(aP x).ai=6)(h0:x.ae≠0∧x.ae≠18∧x.ae≠19∧x.ae≠20):∃w' fM,js w g=some (w',true)∧Inv w' fM∧bK w w':=by
 have L:=I.loc g x hx;obtain⟨ho,hR⟩:=pj I hx h0.1;have pM:=L.kp h0.1;have kM:=L.pl;have fin:∀{a:Option Wd},(∃w',a=some w'∧Inv w' ls∧bK w w')→∃w' fM,yes a=some (w',true)∧Inv w' fM∧bK w w':=fun⟨w',a,b,c⟩=>⟨w',ls,nN a,b,c⟩
 have r7:∀{a:Option Wd},(∃w' fM,a=some w'∧Inv w' fM∧bK w w')→∃w' fM,yes a=some (w',true)∧Inv w' fM∧bK w w':=fun⟨w',fM,a,b,c⟩=>⟨w',fM,nN a,b,c⟩
 unfold js;simp only[ho,hx,bW,eN];rw[aE (by omega)];by_cases hc:x.ae=4∨x.ae=12∨x.ae=13∨x.ae=15∨x.ae=16∨x.ae=17
 ·rw[aF (by simpa[eO]using hc)];exact ud I hx hs (by omega) hc
 rw[aE (by simpa[eO]using hc)];by_cases h1:x.ae=21
 ·rw[aF h1];exact fin (LX I hx hs hk h1)
 rw[aE h1];by_cases h2:x.ae=22
 ·rw[aF h2];exact r7 (L8 I hx hs hk h2)
 rw[aE h2];by_cases h3:x.ae=23
 ·rw[aF h3];exact r7 (Dt I hx hs hk h3)
 exfalso;rw[hk]at pM;have:x.ae=1∨x.ae=2∨x.ae=3∨x.ae=5∨x.ae=6∨x.ae=7∨x.ae=8∨x.ae=9∨x.ae=10∨x.ae=11∨x.ae=14∨x.ae=24∨x.ae=25∨x.ae=26∨x.ae=27∨x.ae=28∨x.ae=29∨x.ae=30∨x.ae=31∨x.ae=32∨x.ae=33∨x.ae=34:=by omega
 rcases this with h|h|h|h|h|h|h|h|h|h|h|h|h|h|h|h|h|h|h|h|h|h<;>rw[h]at pM<;>simp[bG]at pM
end
end Go.Proofs.YtadifmnmfnihdaaGreat.V
namespace Go.Proofs.YtadifmnmfnihdaaGreat
open Go.RowKit Mach Go.Proofs.Tryz
section
variable{af:Nat}{F:Fx}{w w0 w':World}{m m0 m':Mem}{S S':Wd}{L:List (Nat×Obj)}
theorem Mx(R:bz af F w m S)(hl:∀v∈S.list,0≤v∧v≤65535)(n:Int)(hn:1≤n∧n≤100000)(h0:0≤S.drawn∧S.drawn≤1000000):Calls prog 197 #[.pointer (some ⟨F.gN,0,none⟩),I n] w (eL (I (gw S.list S.drawn n).1) fun w'=>At af F m w m w' {S with drawn:=(gw S.list S.drawn n).2}):=by
 unfold gw;by_cases h:(S.list.length:Int)≤S.drawn
 ·rw[aF (.inr h)];exact Ss R n hn S.drawn rfl h
 ·rw[aE (by omega)];obtain⟨d,hd⟩:=pz h0.1;have Lw:d<S.list.length:=by omega
  have hv:S.list[d]?=some S.list[d]:=fv Lw;have h:=Oa R n hn d hd (by omega) _ hv (hl _ (List.getElem_mem Lw));rw[hd,eR,hv];exact h
theorem PZ(R:bz af F w m S)(g:Int):Calls prog 137 #[.pointer (some ⟨F.dB,0,none⟩),I g] w (eL (.bool (Av S.ax g).2) fun w'=>At af F m w m w' {S with ax:=(Av S.ax g).1}):=by
 have c0:=R.Bu;have pI:=ag (fun W (R:bz af F W m S)=>gZ R g);have HR:=ag (At.refl R);unfold Av;by_cases h0:bU S.ax g=0
 ·obtain⟨j,rfl,hj,hx⟩:=sP (b:=S.ax) (g:=g) (by omega);rw[h0]at hx pI;rw[aE (by rw[h0];simp)];obtain⟨tk,xT⟩:=dC (token S.ax (j:Int));rw[←xT]at hx;obtain⟨e0,e1⟩:=R.one hx;have f0:=R.frozen R.aB.ax (j*2);have f1:=R.frozen R.aB.ax (j*2+1);have A1:=HR.out.one (q:=0) hx (2,tk) (by omega) (v:=I 2) rfl;have A2:=A1.one (j:=j) (q:=1) (x:=(2,tk)) (by show(S.ax.set j (2,tk))[j]?=_;exact getElem?_set_self' hx) (2,false) (by omega) (v:=B false) rfl;have Ap:=ag (A2.eq (S':={S with ax:=S.ax.set j (2,false)}) (by simp));clear R hx h0 xT A1 A2;go_enter func137,ntmps137;go_wp2_with fail
  refine(pI.out _ HR.out.bj).mono ?_;rintro e w' ⟨rfl,rfl⟩;go_wp2;go_ret;exact⟨rfl,Ap.out⟩
 ·rw[aF h0];obtain⟨st,EZ⟩:∃st,st=bU S.ax g:=⟨_,rfl⟩;rw[←EZ]at pI h0;have ff:(st !=0)=true:=by simpa using h0
  clear R EZ;go_enter func137,ntmps137;go_wp2_with fail
  refine(pI.out _ HR.out.bj).mono ?_;rintro e w' ⟨rfl,rfl⟩;go_wp2;go_ret;exact⟨rfl,HR.out⟩
theorem zC(R:bz af F w m S)(g:Nat)(S':Wd)(hm:never S g=some S'):Calls prog 139 #[bR F,I g] w (ee fun w'=>At af F m w m w' S'):=by
 obtain⟨x,hx,rfl⟩:=dr hm;have c4:=R.nJ;have HR:=ag (At.refl R);have HX:=ag hx;have eM:=cA hx;clear R hm hx;unfold bR;go_enter func139,ntmps139;go_wp2_with (go_at_call 157;refine(Kl HR.out g).mono ?_;rintro e w1 ⟨⟨b,rfl⟩,A1⟩;have R1:=A1.bj;have c3:=R1.eu;have p2:=R1.g HX.out 2 _ rfl;have wW:=R1.frozen R1.aB.gs (g*25+2);have cm:=R1.lt R1.aB.gs;have aU:=R1.lt R1.aB.al;have A2:=A1.g HX.out {x with ae:=19} (q:=2) (v:=I 19);have HA:=ag A2;clear A1 A2 R1);go_end0;exact⟨rfl,HA.out⟩
theorem F7(R:bz af F w m S)(g:Nat)(aJ:Int)(S':Wd)(hm:Nc S g aJ=some S'):Calls prog 140 #[bR F,I g,I aJ] w (ee fun w'=>At af F m w m w' S'):=by
 unfold Nc fL at hm
 cases hx:S.gs[g]? with
 |none=>rw[hx]at hm;cases hm
 |some x=>
  rw[hx]at hm
  cases hm;have c2:=R.dM;have c3:=R.eu;have eM:=cA hx;obtain⟨g2,xV⟩:=R.ef hx 2 _ rfl;obtain⟨g12,xC⟩:=R.ef hx 12 _ rfl;obtain⟨g15,tT⟩:=R.ef hx 15 _ rfl;obtain⟨g16,tU⟩:=R.ef hx 16 _ rfl;obtain⟨g17,tV⟩:=R.ef hx 17 _ rfl;obtain⟨g18,tW⟩:=R.ef hx 18 _ rfl;obtain⟨g19,tX⟩:=R.ef hx 19 _ rfl;obtain⟨aU,cm,aY,aZ⟩:=R.pB;have A1:=(At.refl R).res hx {aJ:=aJ,case:= -1};have A2:=A1.g (az hx) {x with res:={aJ:=aJ,case:= -1},point:=S.av} (q:=12) (v:=I S.av)
  rw[aA]at A2;have A3:=A2.g (az hx) {x with res:={aJ:=aJ,case:= -1},point:=S.av,ae:=18} (q:=2) (v:=I 18);rw[aA]at A3;have HA:=ag A3;clear R hx A1 A2 A3;unfold bR;go_enter func140,ntmps140;go_wp2;go_end0;refine⟨rfl,?_⟩;try simp only[Nat.add_assoc,Nat.reduceAdd]
  exact HA.out
end
end Go.Proofs.YtadifmnmfnihdaaGreat
namespace Go.Proofs.YtadifmnmfnihdaaGreat
open Go.RowKit Mach
section
variable{af b j:Nat}{F:Fx}{w w' w0:World}{m m0:Mem}{S S':Wd}{r:bH}{v:Value}
def Mem.fR(m:Mem)(k rb pb n:Nat):Mem:=(m.eG (.eU k) (some rb) 0).eG (.places k) (some pb) n
theorem ug(m:Mem)(k rb pb n:Nat)(r:bH)(h1:r≠ .eU k)(h2:r≠ .places k):(m.fR k rb pb n).aV r=m.aV r:=by
 unfold Mem.fR;rw[Mem.bN _ _ _ h2,Mem.bN _ _ _ h1]
theorem pq(m:Mem)(k rb pb n:Nat):(m.fR k rb pb n).aV (.eU k)=some rb:=by
 unfold Mem.fR;rw[Mem.bN _ _ _ (by simp),Mem.dL]
theorem mY(m:Mem)(k rb pb n:Nat):(m.fR k rb pb n).aV (.places k)=some pb:=by
 unfold Mem.fR;rw[Mem.dL]
theorem At.P6(A:At af F m0 w0 m w S){n rb pb:Nat}(hr:w.heap[rb]?=some (.cells #[.slice (some ⟨pb,0,none⟩) n n,I 0,I 0] 159 (0,0)))(hp:w.heap[pb]?=some (.cells (List.replicate n (I 0)).toArray 2 (0,0)))(cM:rb≠pb)(h1:af≤rb)(h2:af≤pb)(h3:∀r',m.aV r'≠some rb)(h4:∀r',m.aV r'≠some pb)(h5:w0.heap.size≤rb)(h6:w0.heap.size≤pb):At af F m0 w0 (m.fR S.au.length rb pb n) w S:=by
 have U9:S.au[S.au.length]?=none:=rq cG;have A1:=A.aa5 (r:=.eU S.au.length) (c:=0) rfl rfl (by simp only[aj,U9]) hr h1 h3 h5 (wF cG);refine A1.aa5 (r:=.places S.au.length) (c:=n) rfl rfl (by simp only[aj,U9]) hp h2 (fun r'=>?_) h6 (ue cG);by_cases e:r'=.eU S.au.length
 ·subst e;rw[Mem.dL];intro h;exact cM (mx h)
 ·rw[Mem.bN _ _ _ e];exact h4 r'
theorem At.yc(A:At af F m0 w0 m w S){n rb pb:Nat}(hr:w.heap[rb]?=some (.cells #[.slice (some ⟨pb,0,none⟩) n n,I 0,I 0] 159 (0,0)))(hp:w.heap[pb]?=some (.cells (List.replicate n (I 0)).toArray 2 (0,0)))(cM:rb≠pb)(h1:af≤rb)(h2:af≤pb)(h3:∀r',m.aV r'≠some rb)(h4:∀r',m.aV r'≠some pb)(h5:w0.heap.size≤rb)(h6:w0.heap.size≤pb){w1:World}{g c:Nat}(hg:w.grownBy w1 (m.aV .au))(hown:w1.ownsRow af 118 1 (.slice (some ⟨g,0,none⟩) (S.au.length+1) c) (S.au.length+1) (aj m S .au++[.pointer (some ⟨rb,0,none⟩)]))(bE:m.aV .au=some g∨w.heap.size≤g):At af F m0 w0 ((m.fR S.au.length rb pb n).eG .au (some g) c) (w1.setCell ⟨F.al,5,none⟩ (.slice (some ⟨g,0,none⟩) (S.au.length+1) c)) {S with au:=S.au++[{places:=List.replicate n 0}]}:=by
 have A2:=A.P6 hr hp cM h1 h2 h3 h4 h5 h6;have Mu:(m.fR S.au.length rb pb n).aV .au=m.aV .au:=ug _ _ _ _ _ _ (by simp) (by simp);have hu:∀r,r≠bH.au→∀q,((m.fR S.au.length rb pb n).eG .au (some g) c).cU r q=(m.fR S.au.length rb pb n).cU r q:=fun r hr q=>Mem.qv _ _ _ _ hr
 have zD:∀r,r≠bH.au→((m.fR S.au.length rb pb n).eG .au (some g) c).ptr r=(m.fR S.au.length rb pb n).ptr r:=fun r hr=>Mem.sL _ _ _ hr
 refine A2.ar7 (r:=.au) (p:=(118,1)) rfl (by intro q hq;simp[eI]at hq;exact hq.symm) A2.bj.aB.al (by simp) (by rw[Mu];exact hg) hown (by rw[Mu];exact bE) ?_ ?_ ?_
 ·simp only[aj,py,sV,List.length_nil,Nat.zero_add];rw[List.range_succ,List.map_append];congr 1
  ·apply List.map_congr_left;intro i hi;rw[List.mem_range]at hi;rw[zD _ (by simp)];unfold Mem.ptr;rw[ug _ _ _ _ _ _ (by simp;omega) (by simp)]
  ·simp only[List.map_cons,List.map_nil];rw[zD _ (by simp),Mem.lz (pq _ _ _ _ _)]
 ·simp only[aj,hu _ (show bH.gs≠ .au by simp),zD _ (show bH.dB≠ .au by simp),hu _ (show bH.aO≠ .au by simp),zD _ (show bH.dY≠ .au by simp),zD _ (show bH.aw≠ .au by simp),hu _ (show bH.ah≠ .au by simp),zD _ (show bH.ar≠ .au by simp),zD _ (show bH.gN≠ .au by simp),hu _ (show bH.draws≠ .au by simp),hu _ (show bH.done≠ .au by simp),Mem.uH,py,sV,List.length_nil,Nat.zero_add];rfl
 ·intro r' e1 e2
  cases r' with
  |au=>exact aX rfl e1
  |al=>exact aX rfl e2
  |eU i=>
   by_cases e:i=S.au.length
   ·subst e;refine .inr ⟨by rw[pq];simp,fun b' ff=>?_⟩;rw[pq]at ff
    cases ff;have hc:aj ((m.fR S.au.length rb pb n).eG .au (some g) c) {S with au:=S.au++[{places:=List.replicate n 0}]} (.eU S.au.length)=[.slice (some ⟨pb,0,none⟩) n n,I 0,I 0]:=by simp only[aj,Ew cG,Nat.sub_self,List.getElem?_cons_zero];rw[hu _ (by simp),Mem.de (mY _ _ _ _ _)];simp[Mem.fR,Mem.eG]
    rw[hc];exact⟨_,_,hr,by simp,by simp,fun p hp=>by cases hp⟩
   ·refine .inl ?_;simp only[aj]
    have hi:(S.au++[({places:=List.replicate n 0}:Ring)])[i]?=S.au[i]?:=by
     rcases Nat.lt_or_ge i S.au.length with h|h
     ·rw[Ev h]
     ·rw[rq (by simp;omega),rq h]
    rw[hi]
    cases S.au[i]? with
    |none=>rfl
    |some r=>simp only[hu _ (show bH.places i≠ .au by simp)]
  |places i=>
   by_cases e:i=S.au.length
   ·subst e;refine .inr ⟨by rw[mY];simp,fun b' ff=>?_⟩;rw[mY]at ff
    cases ff;have hc:aj ((m.fR S.au.length rb pb n).eG .au (some g) c) {S with au:=S.au++[{places:=List.replicate n 0}]} (.places S.au.length)=List.replicate n (I 0):=by simp only[aj,Ew cG,Nat.sub_self,List.getElem?_cons_zero];simp
    rw[hc];exact⟨_,_,hp,by simp,yl (by simp),fun p hp=>by cases hp⟩
   ·refine .inl ?_;simp only[aj]
    have hi:(S.au++[({places:=List.replicate n 0}:Ring)])[i]?=S.au[i]?:=by
     rcases Nat.lt_or_ge i S.au.length with h|h
     ·rw[Ev h]
     ·rw[rq (by simp;omega),rq h]
    rw[hi]
  |_=>first
   |exact .inl rfl
   |exact .inl (by simp only[aj,gk,Cu,je,hu _ (show _≠bH.au by simp),zD _ (show _≠bH.au by simp),ne_eq,reduceCtorEq,not_false_eq_true])
end
end Go.Proofs.YtadifmnmfnihdaaGreat
namespace Go.Proofs.YtadifmnmfnihdaaGreat
open Go.RowKit Mach Go.Proofs.Tryz
theorem KF:(prog.info? 118).map (fun i=>(i.zero,i.size,i.bytes))=some (some (.pointer none),1,8):=by kernel_rfl
theorem P7:(prog.info? 4).map (fun i=>(i.zero,i.size,i.bytes))=some (some (B false),1,1):=by kernel_rfl
theorem underlying87:prog.underlying 87=some (.slice 118):=by kernel_rfl
theorem underlying88:prog.underlying 88=some (.slice 4):=by kernel_rfl
theorem xi{fn:Func}{p:Tmp}(h:fn.results=#[.cell p 44])(tmps:Array Value)(w:World)(b:Nat)(v0 v1 v2 v3 v4:Value)(fr:Nat×Nat)(hp:tmps.getD p undef=.pointer (some ⟨b,0,none⟩))(hg:w.heap[b]?=some (.cells #[v0,v1,v2,v3,v4] 44 fr)):(results fn tmps).run prog w=.ok (.agg #[v0,v1,v2,v3,v4]) w:=by
 obtain⟨d,hu,hd⟩:=PT;have vT:tmps[p]?.getD undef=.pointer (some ⟨b,0,none⟩):=by simpa using hp
 have hr:(loadVar 44 ⟨b,0,none⟩).run prog w=.ok (.agg #[v0,v1,v2,v3,v4]) w:=by
  cases d with
  |struct f=>exact run_loadVar_row w b 44 44 #[v0,v1,v2,v3,v4] fr _ hg hu rfl zA
  |array f e=>exact run_loadVar_row w b 44 44 #[v0,v1,v2,v3,v4] fr _ hg hu rfl zA
  |_=>cases hd
 simp[results,h,vT,asAddr,hr]
section
variable{af:Nat}{F:Fx}{w w0 w':World}{m m0 m':Mem}{S S':Wd}{L:List (Nat×Obj)}
theorem Be(R:bz af F w m S)(room:Int)(h8:8≤S.au.length):Calls prog 142 #[bR F,I room] w (eL (.agg #[I 7,I (-1),I 0,B false,I 0]) fun w'=>At af F m w m w' S):=by
 have c5:=R.qx;obtain⟨a,c,hh⟩:=R.shape (r:=.au) (n:=S.au.length) (by simp[aj]);rw[hh]at c5;obtain⟨n,hn⟩:=dC (S.au.length);rw[←hn]at c5 h8;have hb:decide ((8:Int)≤(n:Int))=true:=by simp;omega
 have WM:=R.lt R.aB.al;have HA:=ag (At.refl R);clear R hh hn;unfold bR;go_enter func142,ntmps142;go_wp2;refine bodyPost_ret (xi rfl _ _ w.heap.size _ _ _ _ _ (0,0) rfl (dP w _)) rfl ?_;exact⟨rfl,HA.out.alloc _⟩
theorem AB.yc{b0:Nat}{ob:Obj}(X:AB af F m0 w0 m w S [(b0,ob)]){buf:Obj}{n rb pb:Nat}(hr:w.heap[rb]?=some (.cells #[.slice (some ⟨pb,0,none⟩) n n,I 0,I 0] 159 (0,0)))(hp:w.heap[pb]?=some (.cells (List.replicate n (I 0)).toArray 2 (0,0)))(cM:rb≠pb)(h1:af≤rb)(h2:af≤pb)(h3:∀r',m.aV r'≠some rb)(h4:∀r',m.aV r'≠some pb)(h5:w0.heap.size≤rb)(h6:w0.heap.size≤pb)(oH:rb≠b0)(gq:pb≠b0){w1:World}{g c:Nat}(hg:(w.alloc buf).grownBy w1 (m.aV .au))(hown:w1.ownsRow af 118 1 (.slice (some ⟨g,0,none⟩) (S.au.length+1) c) (S.au.length+1) (aj m S .au++[.pointer (some ⟨rb,0,none⟩)]))(bE:m.aV .au=some g∨(w.alloc buf).heap.size≤g):AB af F m0 w0 ((m.fR S.au.length rb pb n).eG .au (some g) c) (w1.setCell ⟨F.al,5,none⟩ (.slice (some ⟨g,0,none⟩) (S.au.length+1) c)) {S with au:=S.au++[{places:=List.replicate n 0}]} [(b0,ob)]:=by
 have IF:rb<w.heap.size:=(dh hr).1;have hlp:pb<w.heap.size:=(dh hp).1;have Fu:b0<w.heap.size:=(dh X.head).1;have r8:=(X.loc _ (rn ..)).2;refine⟨(X.at_.alloc buf).yc (by rw[gf w _ _ IF];exact hr) (by rw[gf w _ _ hlp];exact hp) cM h1 h2 h3 h4 h5 h6 hg hown bE,fun p hp=>?_⟩;simp at hp;subst hp;refine⟨?_,fun r e=>?_⟩
 ·show(w1.setCell _ _).heap[b0]?=_;rw[fQ _ _ _ _ (fun e=>r8 .al (by rw[X.bj.aB.al,e]))];rw[hg.block b0 (by simp;omega) (fun e=>r8 .au e.symm),gf w _ _ Fu];exact X.head
 ·have e:((m.fR S.au.length rb pb n).eG .au (some g) c).aV r=some b0:=e;by_cases e1:r=.au
  ·subst e1;rw[Mem.dL]at e
   cases e;rcases bE with h|h
   ·exact r8 .au h
   ·simp at h;omega
  ·rw[Mem.bN _ _ _ e1]at e;by_cases e2:r=.eU S.au.length
   ·subst e2;rw[pq]at e;cases e;exact oH rfl
   ·by_cases e3:r=.places S.au.length
    ·subst e3;rw[mY]at e;cases e;exact gq rfl
    ·rw[ug _ _ _ _ _ _ e2 e3]at e;exact r8 r e
def iu(S:Wd)(n q:Nat):Wd:={S with au:=S.au++[{places:=List.replicate n 0}],aO:=S.aO++[false],aq:=S.aq++List.replicate q (-1)}
theorem AB.WU{S':Wd}(X:AB af F m0 w0 m w S L)(h:S=S'):AB af F m0 w0 m w S' L:=h▸X
theorem zE(A:At af F m0 w0 m w S)(n:Nat):Calls prog 201 #[.pointer (some ⟨F.dY,0,none⟩)] (w.drewN n) fun e w'=>e=.returned (I S.aq.length)∧w'=w.drewN n:=
 (AI (A.drewN n).bj).mono fun e w' h=>⟨h.1,h.2.symm⟩
theorem F8(X:AB af F m0 w0 m w S L)(hl:S.aq.length≤4000):Calls prog 202 #[.pointer (some ⟨F.dY,0,none⟩)] w (eL (I S.aq.length) fun w'=>∃m',AB af F m0 w0 m' w' {S with aq:=S.aq++[-1]} L):=
 (AM X.bj hl).mono fun e w' ⟨h1,m',h2⟩=>⟨h1,m',X.av h2⟩
theorem DR(R:bz af F w m S)(n:Nat)(Zj:n≤64)(h8:¬8≤S.au.length)(Aq:S.aq.length=S.au.length)(gm:S.aO.length=S.au.length):Calls prog 142 #[bR F,I n] w (eL (.agg #[I 1,I (-1),I 0,B true,I (S.au.length+1)]) (To af F m w (iu S n 1))):=by
 obtain⟨i1,hi1,gF,rh,gq⟩:=info_parts KF;obtain⟨i2,hi2,gG,vz,mz⟩:=info_parts P7;have c5:=R.qx;obtain⟨k,hk⟩:=dC (S.au.length);obtain⟨va,vc,hh⟩:=R.shape (r:=.au) (n:=S.au.length) (by simp[aj]);rw[hh]at c5;rw[←hk]at c5 h8;have WV:Hid (m.cU .au k=.slice va k vc):=by rw[hk];exact hh
 have hb:decide ((8:Int)≤(k:Int))=false:=by simp;omega
 have WM:=R.lt R.aB.al;have HX:=ag ((AB.iU R).alloc (.cells #[I 0,I 0,I 0,B false,I 0] 44));have HN:=ag (fun w=>CW n Zj w);have HK:=ag hk;have vD:=ag R.eS;have TD:Hid (F.al<w.heap.size):=WM;obtain⟨tP,HLK⟩:=dA gm Aq;clear R hh hk gm Aq;unfold bR;go_enter func142,ntmps142;go_wp2_with (first|(go_at_call 200;refine(HN.out _).mono ?_;rintro e wA ⟨rb,pb,rfl,NY⟩;have P8:=ag NY;have XA:=HX.out.av ((At.refl HX.out.bj).heap NY.below);have RA:=XA.bj;have d5:=RA.qx;rw[←HK.out,WV.out]at d5;have fd5:=RA.frozen RA.aB.al 5;have l1:=RA.lt RA.aB.al;have hown:=RA.owns (r:=.au) (p:=(118,1)) rfl (by decide) (n:=k) (by rw[HK.out];simp[aj]);rw[WV.out]at hown;have HO:=ag hown;have qq:=RA.eS;have iv:=ag XA;clear XA RA NY hown)|(at_builtin;go_loud (refine jw (us:=#[.pointer (some ⟨rb,0,none⟩)]) (w2:=wA) rfl (.tmp 23) (.tmp 25) 87 rfl underlying87 hi1 gF rh gq rfl (by decide) (by decide) rfl rfl (by simp[Value.oneCell']) (.slice va k vc) k _ rfl HO.out rfl (by omega) qq ?_)));intro gg cap w3 er bX bE;have jz:(Value.slice va k vc).ownBlock=m.aV .au:=by rw[←WV.out,Mem.mM]
 rw[jz]at bX bE;have FI:(w.alloc (.cells #[I 0,I 0,I 0,B false,I 0] 44)).heap.size=w.heap.size+1:=by simp
 have P9:=P8.out.rb0;have Qa:=P8.out.pb0;have au1:w.heap.size+1≤rb:=by rw[←FI];exact P9
 have Pj:w.heap.size+1≤pb:=by rw[←FI];exact Qa
 have XB:=iv.out.yc (buf:=.cells #[.pointer (some ⟨rb,0,none⟩)] 118) P8.out.eU P8.out.places P8.out.ne (by have:=vD.out;omega) (by have:=vD.out;omega) (HX.out.bj.iT P9) (HX.out.bj.iT Qa) (by omega) (by omega) (by omega) (by omega) bX (by rw[←HK.out];exact er) (by simpa using bE);rw[←HK.out]at XB;obtain⟨wB,hwB,XB⟩:∃wB,wB=_∧AB af F m w ((m.fR k rb pb n).eG .au (some gg) cap) wB _ _:=⟨_,rfl,XB⟩;have d5b:=fW (o:=.cells #[.pointer (some ⟨rb,0,none⟩)] 118) bX d5 rfl (iv.out.bj.jv iv.out.bj.aB.al (by simp));have WW:=fN (o:=.cells #[.pointer (some ⟨rb,0,none⟩)] 118) bX fd5 l1 rfl (iv.out.bj.jv iv.out.bj.aB.al (by simp));have wG:=ag XB;have UT:=ag hwB;clear er bX bE XB hwB;go_upto_region 5 with fail
 rw[←UT.out];clear d5 fd5 d5b WW c5 UT HO qq l1;have RB:=wG.out.bj;have fe6:=RB.frozen RB.aB.al 6;have l1:=RB.lt RB.aB.al;obtain⟨vb,vd,TE⟩:=RB.shape (r:=.aO) (n:=S.aO.length) (by simp[aj]);have e6:wB.cell? ⟨F.al,6,none⟩=some (.slice vb k vd):=by rw[HK.out,←tP.out,←TE];exact RB.Cv
 have zF:=RB.owns (r:=.aO) (p:=(4,1)) rfl (by decide) (n:=S.aO.length) (by simp[aj]);rw[TE]at zF;have fu:wB.ownsRow af 4 1 (.slice vb k vd) k (S.aO.map B):=by rw[HK.out,←tP.out];exact zF
 have Jg:Hid ((Value.slice vb k vd).ownBlock=((m.fR k rb pb n).eG .au (some gg) cap).aV .aO):=by rw[HK.out,←tP.out,←TE,Mem.mM];rw[HK.out];exact ag rfl
 have Jh:Hid ((Value.slice vb k vd).ownBlock≠some F.al):=by rw[Jg.out];exact RB.jv RB.aB.al (by simp)
 have OJ:=ag fu;have Ga:=RB.eS;clear RB TE fu zF;go_wp2_with (at_builtin;go_loud (refine jw (us:=#[B false]) (w2:=wB) rfl (.tmp 33) (.tmp 34) 88 rfl underlying88 hi2 gG vz mz rfl (by decide) (by decide) rfl rfl (by simp[Value.oneCell']) (.slice vb k vd) k _ rfl OJ.out rfl (by omega) Ga ?_));intro g2 hU w4 Gb oQ qU;have d6:=fW (o:=.cells #[B false] 4) oQ e6 rfl Jh.out;have fd6:=fN (o:=.cells #[B false] 4) oQ fe6 l1 rfl Jh.out;rw[Jg.out]at oQ qU;have hlc:(S.aO++[false]).length=k+1:=by simp[tP.out,HK.out]
 have XC:=wG.out.av (((At.refl wG.out.bj).alloc (.cells #[B false] 4)).BP (l:=S.aO++[false]) oQ (by rw[hlc,List.map_append];exact Gb) (by simpa using qU));rw[hlc]at XC;obtain⟨wC,hwC,XC⟩:∃wC,wC=_∧AB af F m w (((m.fR k rb pb n).eG .au (some gg) cap).eG .aO (some g2) hU) wC (iu S n 0) _:=⟨_,rfl,XC.WU (by simp[iu])⟩;have My:=ag XC;have HWC:=ag hwC;clear Gb oQ qU XC hwC;go_upto_block 6 with fail
 rw[←HWC.out];clear HWC d6 fd6 e6 fe6 OJ Ga Jg Jh l1 wG;have R1:=My.out.bj;have c7:=R1.pC;have d5:=R1.qx;obtain⟨ve,vf,hh3⟩:=R1.shape (r:=.au) (n:=(iu S n 0).au.length) (by simp[aj]);have El:(iu S n 0).au.length=k+1:=by simp[iu,HK.out]
 rw[hh3,El]at d5;have l1:=R1.lt R1.aB.al;have pJ:(iu S n 0).aq.length=k:=by simp[iu,HLK.out,HK.out]
 have XT:=ag (fun q=>zE My.out.at_ q);rw[pJ]at XT;have dD:decide ((k:Int)<(k:Int)+1)=true:=decide_eq_true (by omega);clear R1 hh3;refine wp_loop_rounds 2 ?_;rw[rounds_succ];go_wp2_with fail
 go_quiet ((go_at_call 201;exact Calls.quiet_of_same (XT.out _)));go_wp2_with (go_at_call 202;refine(F8 (af:=af) (F:=F) (m0:=m) (w0:=w) (S:=iu S n 0) (m:=((m.fR k rb pb n).eG .au (some gg) cap).eG .aO (some g2) hU) (L:=[(w.heap.size,.cells #[I 0,I 0,I 0,B false,I 0] 44)]) ?_ (by rw[pJ];omega)).mono ?_;exact My.out.aI;rintro e wD ⟨rfl,mD,XD⟩;have TF:=ag (XD.WU (S':=iu S n 1) (by simp[iu,List.replicate]));clear XD);clear c7 d5 XT dD;have R1:=TF.out.bj;have c7:=R1.pC;have d5:=R1.qx;obtain⟨vg,vh,Nz⟩:=R1.shape (r:=.au) (n:=(iu S n 1).au.length) (by simp[aj]);have XG:(iu S n 1).au.length=k+1:=by simp[iu,HK.out]
 rw[Nz,XG]at d5;have l2:=R1.lt R1.aB.al;have hl4:(iu S n 1).aq.length=k+1:=by simp[iu,HLK.out,HK.out]
 have XT:=ag (fun q=>zE TF.out.at_ q);rw[hl4]at XT;have rT:decide ((((k+1:Nat):Int))<(k:Int)+1)=false:=decide_eq_false (by omega);obtain⟨r0,r1,r2,r3,r4⟩:=qT TF.out.head;have Hc:=aM TF.out.head 0;have Hd:=aM TF.out.head 1;have Au:=aM TF.out.head 2;have He:=aM TF.out.head 3;have Hf:=aM TF.out.head 4;have HKI:Hid ((S.au.length:Int)=k):=by rw[HK.out];exact ag rfl
 clear R1 Nz;rw[rounds_succ];go_wp2_with fail
 go_quiet ((go_at_call 201;exact Calls.quiet_of_same (XT.out _)));go_wp2;rw[HKI.out];have Y:=TF.out;refine bodyPost_ret (xi rfl _ _ w.heap.size _ _ _ _ _ (0,0) rfl (kF Y.head _ _ _ _ _)) rfl ?_;refine⟨?_,_,At.xF ?_ (Y.loc _ (rn ..)).2 cG _ _ _ _ _⟩
 ·trace_state;simp
 ·exact Y.at_.aI
theorem Bf(R:bz af F w m S)(Aq:S.aq.length=S.au.length)(gm:S.aO.length=S.au.length)(room:Int)(S':Wd)(r:nP)(hm:makeChan S room=some (S',r)):Calls prog 142 #[.pointer (some ⟨F.al,0,none⟩),I room] w (eL (.agg #[I r.aJ,I r.case,I r.v,B r.ok,I r.n]) (To af F m w S')):=by
 unfold makeChan at hm;by_cases h8:8≤S.au.length
 ·rw[aF h8]at hm
  cases hm;exact(Be R room h8).mono fun e w' ⟨h1,h2⟩=>⟨h1,m,h2⟩
 rw[aE h8]at hm;by_cases h9:room<0∨64<room
 ·rw[aF h9]at hm;cases hm
 rw[aE h9]at hm
 cases hm;obtain⟨n,hn⟩:=pz (show 0≤room by omega);subst hn;have h:=DR R n (by omega) h8 Aq gm;have e:S.au.length+1-S.aq.length=1:=by omega
 rw[e];exact h
theorem Gc(X:AB af F m0 w0 m w S L)(Aq:S.aq.length=S.au.length)(gm:S.aO.length=S.au.length){room:Int}{S':Wd}{r:nP}(hm:makeChan S room=some (S',r)):Calls prog 142 #[bR F,I room] w (eL (.agg #[I r.aJ,I r.case,I r.v,B r.ok,I r.n]) fun w'=>∃m',AB af F m0 w0 m' w' S' L):=
 (Bf X.bj Aq gm room S' r hm).mono fun e w' ⟨h1,m',h2⟩=>⟨h1,m',X.av h2⟩
theorem Gd(X:AB af F m0 w0 m w S L){o:cu}(bO:eX o.ch)(ca:Option Addr)(cn cc:Nat){n:Int}(hm:wQ S o=some n):Calls prog 143 #[bR F,.agg #[I o.ai,I o.ch,I o.n,I o.v,.slice ca cn cc,B o.dG]] w (eL (I n) fun w'=>AB af F m0 w0 m w' S L):=
 (Mt X.bj o bO ca cn cc n hm).mono fun e w' ⟨h1,h2⟩=>⟨h1,X.av h2⟩
theorem TG(R:bz af F w m S)(g:Nat)(x:bI)(hx:S.gs[g]?=some x)(o:cu)(ho:dH S g=o)(dj:o.cases.length≤1000)(hk:o.ai=1)(Aq:S.aq.length=S.au.length)(gm:S.aO.length=S.au.length)(S1:Wd)(r:nP)(hm:makeChan S o.n=some (S1,r))(eE:S1.gs[g]?=some x):Calls prog 90 #[bR F,I g] w (ee fun w'=>To af F m w (S1.ay g {x with res:=r,point:=S1.av,ae:=18}) w'):=by
 have eM:=cA hx;have c3:=R.eu;have HR:=ag (At.refl R);have jg:(o.ai==1)=true:=by rw[hk];rfl
 obtain⟨HX,HO,HM,jc,HLK,tP⟩:=mr hx ho hm eE Aq gm;clear R hx ho hk hm eE Aq gm;unfold bR;go_enter func90,ntmps90;go_wp2_with (go_at_call 92;refine(dw HR.out g HX.out HO.out dj).mono ?_;rintro e w1 ⟨⟨cv,rfl,gE⟩,A1⟩;obtain⟨ca,cc,rfl⟩:=dm.shape gE;have iv:=ag ((AB.qn A1).alloc (eD o ca cc));clear A1 gE);go_wp2_with (go_at_call 142;refine(Gc (af:=af) (F:=F) (m0:=m) (w0:=w) (m:=m) (L:=[(w1.heap.size,eD o ca cc)]) (S:=S) ?_ HLK.out tP.out HM.out).mono ?_;exact iv.out.aI;rintro e wN ⟨rfl,mN,X⟩;have RN:=X.bj;have e2:=RN.dM;have l1:=RN.lt RN.aB.gs;have l2:=RN.lt RN.aB.al;have n1:=RN.ne RN.aB.al RN.aB.gs;have n2:=n1.symm;have p2:=RN.g jc.out 2 _ rfl;have wW:=RN.frozen RN.aB.gs (g*25+2);have ZM:=RN.g jc.out 12 _ rfl;have Pb:=RN.frozen RN.aB.gs (g*25+12);have Ip:=RN.g jc.out 15 _ rfl;have Dm:=RN.frozen RN.aB.gs (g*25+15);have UZ:=RN.g jc.out 16 _ rfl;have Fz:=RN.frozen RN.aB.gs (g*25+16);have U0:=RN.g jc.out 17 _ rfl;have FA:=RN.frozen RN.aB.gs (g*25+17);have FB:=RN.g jc.out 18 _ rfl;have FC:=RN.frozen RN.aB.gs (g*25+18);have J1:=RN.g jc.out 19 _ rfl;have FD:=RN.frozen RN.aB.gs (g*25+19);have Y1:=X.res jc.out r;have Y2:=Y1.g (az jc.out) {x with res:=r,point:=S1.av} (q:=12) (v:=I S1.av);have Y3:=Y2.g (az (az jc.out)) {x with res:=r,point:=S1.av,ae:=18} (q:=2) (v:=I 18);rw[aA,aA]at Y3;have HZ:=ag Y3;clear X Y1 Y2 Y3 RN);go_end0;refine⟨rfl,mN,?_⟩;try simp only[Nat.add_assoc,Nat.reduceAdd]
 exact HZ.out.at_
theorem Qb(R:bz af F w m S)(g:Nat)(x:bI)(hx:S.gs[g]?=some x)(o:cu)(ho:dH S g=o)(dj:o.cases.length≤1000)(hk:o.ai=7)(bO:eX o.ch)(n:Int)(hm:wQ S o=some n):Calls prog 90 #[bR F,I g] w (ee fun w'=>To af F m w (S.ay g {x with res:={aJ:=1,case:= -1,ok:=true,n:=n},point:=S.av,ae:=18}) w'):=by
 have eM:=cA hx;have c3:=R.eu;have HR:=ag (At.refl R);have jg:(o.ai==1)=false:=by rw[hk];rfl
 have TH:(o.ai==7)=true:=by rw[hk];rfl
 have TI:(o.ai==8)=false:=by rw[hk];rfl
 have HM:=ag hm;obtain⟨HX,HO,jc⟩:=ij hx ho hx;clear R hx ho hk hm;unfold bR;go_enter func90,ntmps90;go_wp2_with (go_at_call 92;refine(dw HR.out g HX.out HO.out dj).mono ?_;rintro e w1 ⟨⟨cv,rfl,gE⟩,A1⟩;obtain⟨ca,cc,rfl⟩:=dm.shape gE;have iv:=ag ((AB.qn A1).alloc (eD o ca cc));clear A1 gE);go_wp2_with (go_at_call 143;refine(Gd (af:=af) (F:=F) (m0:=m) (w0:=w) (m:=m) (L:=[(w1.heap.size,eD o ca cc)]) (S:=S) ?_ bO ca o.cases.length cc HM.out).mono ?_;exact iv.out.aI;rintro e wN ⟨rfl,X⟩;have RN:=X.bj;have e2:=RN.dM;have l1:=RN.lt RN.aB.gs;have l2:=RN.lt RN.aB.al;have n1:=RN.ne RN.aB.al RN.aB.gs;have n2:=n1.symm;have p2:=RN.g jc.out 2 _ rfl;have wW:=RN.frozen RN.aB.gs (g*25+2);have ZM:=RN.g jc.out 12 _ rfl;have Pb:=RN.frozen RN.aB.gs (g*25+12);have Ip:=RN.g jc.out 15 _ rfl;have Dm:=RN.frozen RN.aB.gs (g*25+15);have UZ:=RN.g jc.out 16 _ rfl;have Fz:=RN.frozen RN.aB.gs (g*25+16);have U0:=RN.g jc.out 17 _ rfl;have FA:=RN.frozen RN.aB.gs (g*25+17);have FB:=RN.g jc.out 18 _ rfl;have FC:=RN.frozen RN.aB.gs (g*25+18);have J1:=RN.g jc.out 19 _ rfl;have FD:=RN.frozen RN.aB.gs (g*25+19);have Y1:=X.res jc.out {aJ:=1,case:= -1,ok:=true,n:=n};have Y2:=Y1.g (az jc.out) {x with res:={aJ:=1,case:= -1,ok:=true,n:=n},point:=S.av} (q:=12) (v:=I S.av);have Y3:=Y2.g (az (az jc.out)) {x with res:={aJ:=1,case:= -1,ok:=true,n:=n},point:=S.av,ae:=18} (q:=2) (v:=I 18);rw[aA,aA]at Y3;have HZ:=ag Y3;clear X Y1 Y2 Y3 RN);go_end0;refine⟨rfl,m,?_⟩;try simp only[Nat.add_assoc,Nat.reduceAdd]
 exact HZ.out.at_
theorem Qc(R:bz af F w m S)(g:Nat)(x:bI)(hx:S.gs[g]?=some x)(o:cu)(ho:dH S g=o)(dj:o.cases.length≤1000)(hk:o.ai=8)(bO:eX o.ch)(n:Int)(hm:wQ S o=some n):Calls prog 90 #[bR F,I g] w (ee fun w'=>To af F m w (S.ay g {x with res:={aJ:=1,case:= -1,ok:=true,n:=n},point:=S.av,ae:=18}) w'):=by
 have eM:=cA hx;have c3:=R.eu;have HR:=ag (At.refl R);have jg:(o.ai==1)=false:=by rw[hk];rfl
 have TH:(o.ai==7)=false:=by rw[hk];rfl
 have TI:(o.ai==8)=true:=by rw[hk];rfl
 have HM:=ag hm;obtain⟨HX,HO,jc⟩:=ij hx ho hx;clear R hx ho hk hm;unfold bR;go_enter func90,ntmps90;go_wp2_with (go_at_call 92;refine(dw HR.out g HX.out HO.out dj).mono ?_;rintro e w1 ⟨⟨cv,rfl,gE⟩,A1⟩;obtain⟨ca,cc,rfl⟩:=dm.shape gE;have iv:=ag ((AB.qn A1).alloc (eD o ca cc));clear A1 gE);go_wp2_with (go_at_call 143;refine(Gd (af:=af) (F:=F) (m0:=m) (w0:=w) (m:=m) (L:=[(w1.heap.size,eD o ca cc)]) (S:=S) ?_ bO ca o.cases.length cc HM.out).mono ?_;exact iv.out.aI;rintro e wN ⟨rfl,X⟩;have RN:=X.bj;have e2:=RN.dM;have l1:=RN.lt RN.aB.gs;have l2:=RN.lt RN.aB.al;have n1:=RN.ne RN.aB.al RN.aB.gs;have n2:=n1.symm;have p2:=RN.g jc.out 2 _ rfl;have wW:=RN.frozen RN.aB.gs (g*25+2);have ZM:=RN.g jc.out 12 _ rfl;have Pb:=RN.frozen RN.aB.gs (g*25+12);have Ip:=RN.g jc.out 15 _ rfl;have Dm:=RN.frozen RN.aB.gs (g*25+15);have UZ:=RN.g jc.out 16 _ rfl;have Fz:=RN.frozen RN.aB.gs (g*25+16);have U0:=RN.g jc.out 17 _ rfl;have FA:=RN.frozen RN.aB.gs (g*25+17);have FB:=RN.g jc.out 18 _ rfl;have FC:=RN.frozen RN.aB.gs (g*25+18);have J1:=RN.g jc.out 19 _ rfl;have FD:=RN.frozen RN.aB.gs (g*25+19);have Y1:=X.res jc.out {aJ:=1,case:= -1,ok:=true,n:=n};have Y2:=Y1.g (az jc.out) {x with res:={aJ:=1,case:= -1,ok:=true,n:=n},point:=S.av} (q:=12) (v:=I S.av);have Y3:=Y2.g (az (az jc.out)) {x with res:={aJ:=1,case:= -1,ok:=true,n:=n},point:=S.av,ae:=18} (q:=2) (v:=I 18);rw[aA,aA]at Y3;have HZ:=ag Y3;clear X Y1 Y2 Y3 RN);go_end0;refine⟨rfl,m,?_⟩;try simp only[Nat.add_assoc,Nat.reduceAdd]
 exact HZ.out.at_
theorem Ge{room:Int}{S1:Wd}{r:nP}(hm:makeChan S room=some (S1,r)):S1.gs=S.gs:=by
 unfold makeChan at hm;by_cases h8:8≤S.au.length
 ·rw[aF h8]at hm;cases hm;rfl
 rw[aE h8]at hm;by_cases h9:room<0∨64<room
 ·rw[aF h9]at hm;cases hm
 rw[aE h9]at hm
 cases hm;rfl
theorem TJ(R:bz af F w m S)(Aq:S.aq.length=S.au.length)(gm:S.aO.length=S.au.length)(g:Nat)(LB:(dH S g).ai=1∨(dH S g).ai=7∨(dH S g).ai=8)(S':Wd)(hm:KZ S g=some S'):Calls prog 90 #[.pointer (some ⟨F.al,0,none⟩),I g] w (ee (To af F m w S')):=by
 unfold KZ at hm;simp only[bW,cI]at hm;obtain⟨o,eK,x,hx,hm⟩:=hm;obtain⟨ho,bO,dj⟩:=nB eK;rw[ho]at LB;by_cases h1:o.ai=1
 ·rw[aF h1]at hm;simp only[cI]at hm;obtain⟨⟨S1,r⟩,h2,hm⟩:=hm
  cases hm;exact TG R g x hx o ho dj h1 Aq gm S1 r h2 (by rw[Ge h2];exact hx)
 rw[aE h1]at hm;rw[aF (by omega)]at hm;simp only[cI]at hm;obtain⟨n,hn,hm⟩:=hm
 cases hm;rcases LB with h|h|h
 ·exact aX h h1
 ·exact Qb R g x hx o ho dj h bO n hn
 ·exact Qc R g x hx o ho dj h bO n hn
end
end Go.Proofs.YtadifmnmfnihdaaGreat
namespace Go.Proofs.YtadifmnmfnihdaaGreat
open Go.RowKit Mach
section
variable{af:Nat}{F:Fx}{w w0 w':World}{m m0 m':Mem}{S S':Wd}{L:List (Nat×Obj)}
structure Own(m:Mem)(H:Nat)(L:List (Nat×Obj))(w:World)(v:Value)(n:Nat)(xs:List Int):Prop where
 own:w.ownsRow H 3 1 v n (xs.map I)
 free:∀g,v.ownBlock=some g→(∀r,m.aV r≠some g)∧∀p∈L,p.1≠g
theorem Own.shape{H n:Nat}{v:Value}{xs:List Int}(h:Own m H L w v n xs):∃a c,v=.slice a n c:=by
 rcases h.own.2 with⟨h1,h2⟩|⟨g,cap,cur,h1,_⟩
 ·exact⟨none,0,by rw[h1,h2]⟩
 ·exact⟨_,_,h1⟩
theorem Own.len{H n:Nat}{v:Value}{xs:List Int}(h:Own m H L w v n xs):xs.length=n:=by
 have:=h.own.1;simpa using this
theorem Own.nil(m:Mem)(H:Nat)(L:List (Nat×Obj))(w:World):Own m H L w (.slice none 0 0) 0 []:=⟨World.ownsRow_nil _ _ _ _,fun g h=>by cases h⟩
theorem Own.keep{H n:Nat}{v:Value}{xs:List Int}(h:Own m H L w v n xs)(hk:∀g,v.ownBlock=some g→w'.heap[g]?=w.heap[g]?):Own m H L w' v n xs:=by
 refine⟨⟨h.own.1,?_⟩,h.free⟩;rcases h.own.2 with h1|⟨g,cap,cur,rfl,h2,h3,h4⟩
 ·exact .inl h1
 ·exact .inr ⟨g,cap,cur,rfl,h2,by rw[hk g rfl];exact h3,h4⟩
theorem Own.av{H n:Nat}{v:Value}{xs:List Int}(h:Own m H L w v n xs)(B:At af F m w m w' S'):Own m H L w' v n xs:=by
 refine h.keep fun g hg=>?_
 rcases h.own.2 with⟨h1,_⟩|⟨g2,cap,cur,rfl,h2,h3,_⟩
 ·rw[h1]at hg;cases hg
 ·cases hg;exact B.mv.keep _ (dh h3).1 (h.free _ rfl).1
theorem Own.below{H n:Nat}{v:Value}{xs:List Int}(h:Own m H L w v n xs)(hb:Below w.heap.size w w'):Own m H L w' v n xs:=by
 refine h.keep fun g hg=>?_
 rcases h.own.2 with⟨h1,_⟩|⟨g2,cap,cur,rfl,h2,h3,_⟩
 ·rw[h1]at hg;cases hg
 ·cases hg;exact hb.block _ (dh h3).1
theorem AB.af0(X:AB af F m0 w0 m w S L){v:Value}(hf:∀g,v.ownBlock=some g→(∀r,m.aV r≠some g)∧∀p∈L,p.1≠g)(h0:∀g,v.ownBlock=some g→w0.heap.size≤g)(hg:w.grownBy w' v.ownBlock):AB af F m0 w0 m w' S L:=by
 refine⟨⟨⟨hg.os.trans X.at_.mv.os,hg.tape.trans X.at_.mv.tape,hg.output.trans X.at_.mv.output,jm X.at_.mv.size hg.size,fun b hb hn=>?_,X.at_.mv.old⟩,X.bj.heap fun r b hb=>hg.block b (X.bj.lt hb) (fun e=>(hf b e.symm).1 r hb)⟩,fun p hp=>⟨?_,(X.loc p hp).2⟩⟩
 ·rw[hg.block b (uB hb X.at_.mv.size) (fun e=>by have:=h0 b e.symm;omega)];exact X.at_.mv.keep b hb hn
 ·have U8:=(X.loc p hp).1;rw[hg.block p.1 (dh U8).1 (fun e=>(hf p.1 e.symm).2 p hp rfl)];exact U8
end
def zG(o:cu)(i:Int):Int:=((idx o.cases i).map (·.ch)).getD 0
def lY(S:Wd)(o:cu)(l:List Int):List (Int×Int):=(l.map fun i=>(i,zG o i)).filter fun p=>cZ S p.2
theorem zH(S:Wd)(o:cu)(l:List Int)(i:Int):lY S o (l++[i])=lY S o l++(if cZ S (zG o i)then[(i,zG o i)]else[]):=by
 unfold lY;rw[List.map_append,List.filter_append];simp only[List.map_cons,List.map_nil];split
 ·rename_i h;simp[h]
 ·rename_i h;simp[h]
theorem Ck(S:Wd)(o:cu)(l:List Int):(lY S o l).length≤l.length:=by
 unfold lY;exact jm (List.length_filter_le _ _) (by simp)
theorem mapM_some{α β:Type}{f:α→Option β}:∀{l:List α} {r:List β},l.mapM f=some r→(∀a∈l,∃b,f a=some b)∧∀(h:α→β),(∀a b,f a=some b→h a=b)→r=l.map h
 | [],r,e=>by simp at e;subst e;simp
 |a::l,r,e=>by
  simp only[List.mapM_cons,Option.pure_def,bW,cI]at e;obtain⟨b,h1,r',h2,h3⟩:=e
  cases h3;obtain⟨i1,i2⟩:=mapM_some h2;refine⟨fun c hc=>?_,fun h hh=>?_⟩
  ·rcases iL.1 hc with rfl|hc
   ·exact⟨b,h1⟩
   ·exact i1 c hc
  ·rw[List.map_cons,hh a b h1,←i2 h hh]
theorem Ji{S:Wd}{o:cu}{ds:List Int}{cs:List (Int×Int)}(h:kr S o ds=some cs):(∀i∈rz ds ds.length,∃j:Nat,i=j∧∃c,o.cases[j]?=some c∧c.ch=zG o i∧ -1000000000≤c.ch∧c.ch≤1000000000)∧cs=lY S o (rz ds ds.length):=by
 unfold kr at h;rw[PH]at h
 cases hm:(rz ds ds.length).mapM fun i=>(iF o i).map fun c=>(i,c.ch) with
 |none=>rw[hm]at h;cases h
 |some r=>
  rw[hm]at h;simp only[km,oZ]at h;obtain⟨h1,h2⟩:=mapM_some hm
  have key:∀i p,(iF o i).map (fun c=>(i,c.ch))=some p→∃j:Nat,i=j∧∃c,o.cases[j]?=some c∧c.ch=zG o i∧ -1000000000≤c.ch∧c.ch≤1000000000∧(i,zG o i)=p:=by
   intro i p hp
   cases hc:iF o i with
   |none=>rw[hc]at hp;cases hp
   |some c=>
    rw[hc]at hp;simp at hp;subst hp;unfold iF at hc;simp only[bW,cI]at hc;obtain⟨c',h3,h4⟩:=hc;split at h4
    ·cases h4;rename_i eK;obtain⟨j,rfl,hj,hjc⟩:=mO h3;have e:zG o j=c.ch:=(by unfold zG;rw[h3];rfl);unfold kJ at eK;simp at eK;exact⟨j,rfl,c,hjc,e.symm,eK.1,eK.2,by rw[e]⟩
    ·cases h4
  refine⟨fun i hi=>?_,?_⟩
  ·obtain⟨p,hp⟩:=h1 i hi;obtain⟨j,a,c,b,d,e,f,_⟩:=key i p hp;exact⟨j,a,c,b,d,e,f⟩
  ·rw[←h,h2 (fun i=>(i,zG o i)) (fun i p hp=>?_)]
   ·rfl
   ·obtain⟨_,_,_,_,_,_,_,e⟩:=key i p hp;exact e
section
variable{af b j:Nat}{F:Fx}{w w' w0 w1 wr W:World}{m m0:Mem}{S S':Wd}{r:bH}{v:Value}{L:List (Nat×Obj)}
theorem At.Qd(A:At af F m0 w0 m w S)(hl:r.loose=true){rp:bH}{bp c g n:Nat}{p:Nat×Nat}{xs:List Value}(nI:∀q,eI r=some q→q=p)(hp:m.aV rp=some bp)(cM:rp≠r)(hown:w.ownsRow af p.1 p.2 (.slice (some ⟨g,0,none⟩) n c) n xs)(r8:∀r',m.aV r'≠some g)(Mi:w0.heap.size≤g)(jM:aj (m.eG r (some g) c) S' r=xs)(oE:aj (m.eG r (some g) c) S' rp=(aj m S rp).set j (.slice (some ⟨g,0,none⟩) n c))(ho:∀r',r'≠r→r'≠rp→aj (m.eG r (some g) c) S' r'=aj m S r'):At af F m0 w0 (m.eG r (some g) c) (w.setCell ⟨bp,j,none⟩ (.slice (some ⟨g,0,none⟩) n c)) S':=by
 obtain⟨yp,rJ⟩:=gl.kg (ty:=eI r) nI hown;have R2:=A.bj.row (S':=S') (j:=j) (v:=.slice (some ⟨g,0,none⟩) n c) (r:=r) hl (c:=c) (o:=some g) hp cM (fun g' Sb=>by cases Sb;rw[jM];exact⟨yp,rJ,fun r' b' _ h2 e=>r8 r' (e▸h2)⟩) (fun h=>by cases h) oE ho;refine⟨?_,R2⟩
 have Yv:pe m0 w0 (m.eG r (some g) c) w:=by
  refine⟨A.mv.os,A.mv.tape,A.mv.output,A.mv.size,A.mv.keep,fun r' b' hb=>?_⟩;by_cases e:r'=r
  ·subst e;rw[Mem.dL]at hb;cases hb;exact .inr Mi
  ·rw[Mem.bN _ _ _ e]at hb;exact A.mv.old _ _ hb
 exact Yv.setCell (r:=rp) (by rw[Mem.bN _ _ _ cM];exact hp) _
theorem At.Qe(A:At af F m0 w0 m w S){j:Nat}{x:bI}(hx:S.gs[j]?=some x){v:Value}{n:Nat}{l:List Int}(hn:l.length=n)(hown:w.ownsRow af 3 1 v n (l.map I))(hf:∀g,v.ownBlock=some g→(∀r',m.aV r'≠some g)∧w0.heap.size≤g):∃m',At af F m0 w0 m' (w.setCell ⟨F.gs,j*25+20,none⟩ v) (S.ay j {x with aH:=l})∧∀b,m'.aV (.aH j)≠some b→(∀r',m.aV r'≠some b)→∀r',m'.aV r'≠some b:=by
 subst hn;rcases hown.2 with⟨h1,h2⟩|⟨g,cap,cur,rfl,h2,h3,h4⟩
 ·have:l=[]:=xn h2;subst this;subst h1;refine⟨_,A.Ez hx,fun b _ h r' e=>?_⟩;by_cases e2:r'=.aH j
  ·subst e2;rw[Mem.dL]at e;cases e
  ·rw[Mem.bN _ _ _ e2]at e;exact h r' e
 ·refine⟨_,A.Qd (r:=.aH j) (p:=(3,1)) rfl (by intro q hq;simp[eI]at hq) A.bj.aB.gs (by simp) hown (hf g rfl).1 (hf g rfl).2 ?_ ?_ (iz (.inl rfl) hx _ _ rfl (by simp) (by simp) (by simp) (by simp)),fun b h1 h r' e=>?_⟩
  ·simp[aj,Wd.ay,cX hx]
  ·refine iZ (f:=gk m) (k:=25) (fun _ _=>rfl) S.gs 0 j 20 x _ _ hx (by omega) (fun n z hn=>nj m (.inl rfl) _ _ _ (by omega)) ?_;rw[Nat.zero_add];simp[gk,Mem.cU,Mem.eG,ru]
  ·by_cases e2:r'=.aH j
   ·subst e2;exact h1 e
   ·rw[Mem.bN _ _ _ e2]at e;exact h r' e
theorem At.zI(A:At af F m0 w0 m w S){j:Nat}{x:bI}(hx:S.gs[j]?=some x){v:Value}{n:Nat}{l:List Int}(hn:l.length=n)(hown:w.ownsRow af 3 1 v n (l.map I))(hf:∀g,v.ownBlock=some g→(∀r',m.aV r'≠some g)∧w0.heap.size≤g):∃m',At af F m0 w0 m' (w.setCell ⟨F.gs,j*25+21,none⟩ v) (S.ay j {x with aq:=l}):=by
 subst hn;rcases hown.2 with⟨h1,h2⟩|⟨g,cap,cur,rfl,h2,h3,h4⟩
 ·have:l=[]:=xn h2;subst this;subst h1;exact⟨_,A.EA hx⟩
 ·refine⟨_,A.Qd (r:=.aq j) (p:=(3,1)) rfl (by intro q hq;simp[eI]at hq) A.bj.aB.gs (by simp) hown (hf g rfl).1 (hf g rfl).2 ?_ ?_ (iz (.inr (.inl rfl)) hx _ _ rfl (by simp) (by simp) (by simp) (by simp))⟩
  ·simp[aj,Wd.ay,cX hx]
  ·refine iZ (f:=gk m) (k:=25) (fun _ _=>rfl) S.gs 0 j 21 x _ _ hx (by omega) (fun n z hn=>nj m (.inr (.inl rfl)) _ _ _ (by omega)) ?_;rw[Nat.zero_add];simp[gk,Mem.cU,Mem.eG,ru]
theorem AB.below(X:AB af F m0 w0 m w S L)(hB:Below w.heap.size w w'):AB af F m0 w0 m w' S L:=
 ⟨X.at_.heap hB,fun p hp=>⟨by rw[hB.block p.1 (dh (X.loc p hp).1).1];exact(X.loc p hp).1,(X.loc p hp).2⟩⟩
structure vk(B:Nat)(wA wr:World)(v8 v9:Value)(l8 l9:List Int):Prop where
 DS:Below B wA wr
 hB:B≤wr.heap.size
 o8:wr.ownsRow B 3 1 v8 l8.length (l8.map I)
 o9:wr.ownsRow B 3 1 v9 l9.length (l9.map I)
 apart:∀g,v8.ownBlock=some g→v9.ownBlock≠some g
theorem vl{B e size n:Nat}{v:Value}{xs:List Value}(h:w.ownsRow B e size v n xs)(hk:∀g,v.ownBlock=some g→g<w.heap.size→w'.heap[g]?=w.heap[g]?):w'.ownsRow B e size v n xs:=by
 refine⟨h.1,?_⟩;rcases h.2 with h1|⟨g,cap,cur,rfl,h2,h3,h4⟩
 ·exact .inl h1
 ·exact .inr ⟨g,cap,cur,rfl,h2,by rw[hk g rfl (dh h3).1];exact h3,h4⟩
theorem qo{B e size n:Nat}{v:Value}{xs:List Value}(h:w.ownsRow B e size v n xs):∃a c,v=.slice a n c:=by
 rcases h.2 with⟨h1,h2⟩|⟨gg,cap,cur,h1,_⟩
 ·exact⟨none,0,by rw[h1,h2]⟩
 ·exact⟨_,_,h1⟩
theorem pN{B e size n:Nat}{v:Value}{xs:List Value}(h:w.ownsRow B e size v n xs){g:Nat}(hg:v.ownBlock=some g):B≤g∧g<w.heap.size:=by
 rcases h.2 with⟨h1,_⟩|⟨g',cap,cur,rfl,h2,h3,h4⟩
 ·rw[h1]at hg;cases hg
 ·cases hg;exact⟨h2,(dh h3).1⟩
theorem vk.heap{B:Nat}{wA:World}{v8 v9:Value}{l8 l9:List Int}(P:vk B wA wr v8 v9 l8 l9)(h1:w'.heap=wr.heap)(h2:w'.os=wr.os)(h3:w'.tape=wr.tape)(h4:w'.output=wr.output):vk B wA w' v8 v9 l8 l9:=
 ⟨⟨by rw[h2];exact P.DS.os,by rw[h3];exact P.DS.tape,by rw[h4];exact P.DS.output,by rw[h1];exact P.DS.size,fun k hk=>by rw[h1];exact P.DS.block k hk⟩,by rw[h1];exact P.hB,vl P.o8 fun g _ _=>by rw[h1],vl P.o9 fun g _ _=>by rw[h1],P.apart⟩
theorem vk.Va{B:Nat}{wA:World}{v8 v9:Value}{l8 l9:List Int}{o:Obj}{g cap:Nat}{i:Int}(P:vk B wA wr v8 v9 l8 l9)(hW:W.heap=(wr.alloc o).heap)(Rx:W.os=wr.os)(hW3:W.tape=wr.tape)(hW4:W.output=wr.output)(hown:w1.ownsRow B 3 1 (.slice (some ⟨g,0,none⟩) (l8.length+1) cap) (l8.length+1) (l8.map I++[I i]))(hg:W.grownBy w1 (some g))(hw:(∃c,v8=.slice (some ⟨g,0,none⟩) l8.length c)∨g=W.heap.size):vk B wA w1 (.slice (some ⟨g,0,none⟩) (l8.length+1) cap) v9 (l8++[i]) l9:=by
 have hsz:W.heap.size=wr.heap.size+1:=by rw[hW];simp
 have hBg:B≤g:=(pN hown rfl).1;have rI:∀k,k<wr.heap.size→k≠g→w1.heap[k]?=wr.heap[k]?:=fun k hk cM=>by rw[hg.block k (by omega) (fun e=>cM (mx e)),hW];exact gf wr o k hk
 have h9:∀g',v9.ownBlock=some g'→g'≠g:=by
  intro g' Sb e;subst e;rcases hw with⟨c,rfl⟩|h
  ·exact P.apart g' rfl Sb
  ·have:=(pN P.o9 Sb).2;omega
 refine⟨⟨by rw[hg.os,Rx];exact P.DS.os,by rw[hg.tape,hW3];exact P.DS.tape,by rw[hg.output,hW4];exact P.DS.output,by have:=P.DS.size;have:=hg.size;omega,fun k hk=>by rw[rI k (by have:=P.hB;omega) (by omega)];exact P.DS.block k hk⟩,by have:=hg.size;have:=P.hB;omega,by simpa using hown,vl P.o9 fun g' Sb dD=>rI g' dD (h9 g' Sb),fun g' h h'=>?_⟩;simp[Value.ownBlock]at h;subst h;exact h9 _ h' rfl
theorem vk.af1{B:Nat}{wA:World}{v8 v9:Value}{l8 l9:List Int}{o:Obj}{g cap:Nat}{i:Int}(P:vk B wA wr v8 v9 l8 l9)(hW:W.heap=(wr.alloc o).heap)(Rx:W.os=wr.os)(hW3:W.tape=wr.tape)(hW4:W.output=wr.output)(hown:w1.ownsRow B 3 1 (.slice (some ⟨g,0,none⟩) (l9.length+1) cap) (l9.length+1) (l9.map I++[I i]))(hg:W.grownBy w1 (some g))(hw:(∃c,v9=.slice (some ⟨g,0,none⟩) l9.length c)∨g=W.heap.size):vk B wA w1 v8 (.slice (some ⟨g,0,none⟩) (l9.length+1) cap) l8 (l9++[i]):=by
 have Q:vk B wA wr v9 v8 l9 l8:=⟨P.DS,P.hB,P.o9,P.o8,fun g h h'=>P.apart g h' h⟩;have Z:=Q.Va hW Rx hW3 hW4 hown hg hw;exact⟨Z.DS,Z.hB,Z.o9,Z.o8,fun g h h'=>Z.apart g h' h⟩
end
def aB2(w:World)(lo hi:Nat)(P:World→Prop):Prop:=hi≤w.heap.size∧∀W:World,(∀b,lo≤b→b<hi→W.heap[b]?=w.heap[b]?)→P W
def xI(w w':World)(a b c:Nat):Prop:=w.heap.size≤w'.heap.size∧∀k,k<w.heap.size→k≠a→k≠b→k≠c→w'.heap[k]?=w.heap[k]?
theorem xI.refl(w:World)(a b c:Nat):xI w w a b c:=⟨Nat.le_refl _,fun _ _ _ _ _=>rfl⟩
theorem xI.trans{w w1 w2:World}{a b c:Nat}(h:xI w w1 a b c)(k:xI w1 w2 a b c):xI w w2 a b c:=
 ⟨jm h.1 k.1,fun i h1 h2 h3 h4=>(k.2 i (uB h1 h.1) h2 h3 h4).trans (h.2 i h1 h2 h3 h4)⟩
theorem xI.below{w w':World}{a b c:Nat}(h:Below w.heap.size w w'):xI w w' a b c:=⟨h.size,fun k hk _ _ _=>h.block k hk⟩
theorem xI.set{w:World}{a b c k j:Nat}{v:Value}(h:k=a∨k=b∨k=c):xI w (w.setCell ⟨k,j,none⟩ v) a b c:=
 ⟨by simp[World.setCell],fun i h1 h2 h3 h4=>fQ _ _ _ _ (by simp;omega)⟩
theorem xI.grown{w w':World}{a b c:Nat}{r:Option Nat}(h:w.grownBy w' r)(hr:∀k,r=some k→k=a∨k=b∨k=c):xI w w' a b c:=
 ⟨h.size,fun i h1 h2 h3 h4=>h.block i h1 (fun e=>by have:=hr i e.symm;omega)⟩
end Go.Proofs.YtadifmnmfnihdaaGreat
namespace Go.Proofs.YtadifmnmfnihdaaGreat
open Go.RowKit Mach Go.Proofs.Tryz
theorem zJ{P:Program}{ops:Array Oper}{o:Oper}{a:Act}{w:World}{K:Act→World→Prop}{Q:Exit→Act→World→Prop}{E:Prop}(nX:o.guard=none)(s x:Operand)(t:TypeId)(ho:o.op=.call {callee:=.builtin .append,args:=#[s,x],argTypes:=#[t,t]}){e:TypeId}{i:TypeInfo}(ht:P.underlying t=some (.slice e))(hi:P.info? e=some i)(hs:a.eval s=.slice none 0 0)(ao:Option Addr)(c:Nat)(hx:a.eval x=.slice ao 0 c)(h:K (a.put o.dst (.slice none 0 0)) w):if Region.wanted o (yielded ops a.tmps)=true then Oper.wp P o a w K Q else E:=by
 have hw:Region.wanted o (yielded ops a.tmps)=true:=by simp[Region.wanted,nX]
 rw[aF hw];exact yw s x t ho ht hi hs ao c hx h
theorem zK(w:World):Calls prog 81 #[I 1] w fun e w'=>∃b g,e=.returned (.pointer (some ⟨b,0,none⟩))∧w'.heap[b]?=some (.cells #[.slice (some ⟨g,0,none⟩) 1 1] 161 (0,0))∧w'.heap[g]?=some (.cells #[I (-1)] 3 (0,0))∧w.heap.size≤b∧w.heap.size≤g∧b≠g∧Below w.heap.size w w':=by
 obtain⟨i0,hi,fV,gF,gG⟩:=info_parts lC;have sN:∀W:World,(Instr.makeSlice 28 (I 0) (I 0)).run prog W=.ok (.slice (some ⟨W.heap.size,0,none⟩) 0 0) (W.alloc (.cells (madeCells (I 0).cells (0*i0.size)) 3)):=fun W=>et (P:=prog) 28 3 i0 _ underlying28 hi fV .i64 .i64 0 0 cG (by rw[gG];omega) (by omega) W
 have af2:∀W:World,(Instr.makeSlice 28 (I 1) (I 1)).run prog W=.ok (.slice (some ⟨W.heap.size,0,none⟩) 1 1) (W.alloc (.cells (madeCells (I 0).cells (1*i0.size)) 3)):=fun W=>et (P:=prog) 28 3 i0 _ underlying28 hi fV .i64 .i64 1 1 cG (by rw[gG];omega) (by omega) W
 rw[gF]at af2;clear hi fV gF gG sN;go_enter func81,ntmps81;go_wp2;have hm:madeCells #[I 0] 1=#[I 0]:=by kernel_rfl
 obtain⟨g,hg⟩:=dC (w.heap.size);obtain⟨w1,jk⟩:=dC (w.alloc (Obj.cells (madeCells #[I 0] 1) 3));obtain⟨w2,nt⟩:=dC (w1.alloc (Obj.cells #[Value.slice (some ⟨w.heap.size,0,none⟩) 1 1] 161));rw[←jk,←nt,←hg];have s1:w1.heap.size=g+1:=by rw[jk,hg];simp
 have h0:Hid (w2.heap[g]?=some (.cells #[I 0] 3 (0,0))∧w2.heap[g+1]?=some (.cells #[.slice (some ⟨g,0,none⟩) 1 1] 161 (0,0))∧Below w.heap.size w w2):=by
  refine⟨?_,?_,?_⟩
  ·rw[nt,gf _ _ _ (by omega),jk,hg,hm];exact dP _ _
  ·rw[nt,←s1,hg];exact dP _ _
  ·rw[nt,jk];exact((fp _ _).alloc cG _).alloc (by simp) _
 have HG:=ag hg;clear af2 jk nt s1 hg;go_loopw [16] (fun i wr=>∃k:Nat,i=.int .i64 k∧k≤1∧Hid (∃v,(k=1→v=I (-1))∧v.oneCell'=true∧wr.heap[g]?=some (.cells #[v] 3 (0,0))∧wr.heap[g+1]?=some (.cells #[.slice (some ⟨g,0,none⟩) 1 1] 161 (0,0))∧Below w.heap.size w wr)) (fun i _=>1-(intOf i).toNat)
 case atStart=>exact⟨0,rfl,by omega,I 0,(fun h=>by cases h),rfl,h0.out.1,h0.out.2.1,h0.out.2.2⟩
 case round=>
  clear h0;obtain⟨k,rfl,hk,HW⟩:=hrel;by_cases dD:k<1
  ·obtain rfl:k=0:=by omega
   obtain⟨v,_,hv,h1,h2,h3⟩:=HW.out;have cg:wr.cell? ⟨g,0,none⟩=some v:=(by rw[cr _ _ _ _ _ _ h1];rfl);have fg:=iM wr g 0 _ _ h1;have cb:wr.cell? ⟨g+1,0,none⟩=some (.slice (some ⟨g,0,none⟩) 1 1):=by rw[cr _ _ _ _ _ _ h2];rfl
   have HN:Hid (∀W:World,W.heap=(wr.setCell ⟨g,0,none⟩ (I (-1))).heap→W.os=wr.os→W.tape=wr.tape→W.output=wr.output→W.heap[g]?=some (.cells #[I (-1)] 3 (0,0))∧W.heap[g+1]?=some (.cells #[.slice (some ⟨g,0,none⟩) 1 1] 161 (0,0))∧Below w.heap.size w W):=fun W hW o1 o2 o3=>by
    have hB:=h3.setCell (p:=⟨g,0,none⟩) (by show w.heap.size≤g;rw[HG.out];exact Nat.le_refl _) (I (-1));refine⟨?_,?_,?_⟩
    ·rw[hW];exact heap_setCell_same _ _ 0 _ _ _ h1
    ·rw[hW,fQ _ _ _ _ (by simp)];exact h2
    ·exact⟨o1.trans h3.os,o2.trans h3.tape,o3.trans h3.output,by rw[hW];exact hB.size,fun b hb=>by rw[hW];exact hB.block b hb⟩
   clear h1 h2 h3 HW;go_wp2;go_roundw
   case rel=>
    obtain⟨a1,a2,a3⟩:=HN.out _ rfl rfl rfl rfl;exact⟨1,rfl,by omega,I (-1),(fun _=>rfl),rfl,a1,a2,a3⟩
   case measure=>simp[intOf]
  ·obtain rfl:k=1:=by omega
   go_wp2;go_ret;obtain⟨v,hv,_,h1,h2,h3⟩:=HW.out;rw[hv trivial]at h1;have hg:=HG.out;exact⟨g+1,rfl,g,h2,h1,by omega,by omega,by omega,h3⟩
theorem DT(b:Nat)(a:Option Addr)(c:Nat)(w:World):Calls prog 191 #[.pointer (some ⟨b,0,none⟩),.slice a 0 c] w (oV fun w'=>w=w'):=by
 go_enter func191,ntmps191;go_wp2;go_loopw [9] (fun i wr=>i=.int .i64 0∧wr=w) (fun i _=>0)
 case atStart=>exact⟨rfl,rfl⟩
 case round=>
  obtain⟨rfl,rfl⟩:=hrel;go_wp2;go_ret;exact⟨rfl,rfl⟩
theorem Jj{lo:Nat}{w0 w:World}{L:List (bH×oJ)}(H:eh lo w0 w L):Calls prog 81 #[I 1] w fun e w'=>∃b g,e=.returned (.pointer (some ⟨b,0,none⟩))∧eh lo w0 w' ((.dY,some b,0,[.slice (some ⟨g,0,none⟩) 1 1])::(.dQ,some g,1,[I (-1)])::L):=by
 refine(zK w).mono ?_;rintro e w' ⟨b,g,rfl,f1,f2,f4,f5,f6,f7⟩;exact⟨b,g,rfl,H.Sv f7 _ _ _ _ _ _ _ _ f4 (fF f1 rfl (fun p h=>by simp[eI]at h)) f5 (fF f2 rfl (fun p h=>by simp[eI]at h;subst h;exact⟨rfl,rfl,by unfold maxLen;omega⟩)) f6⟩
theorem Qf{cs:List Value}{j:Nat}{v:Value}(h:cs[j]?=some v):cs.set j v=cs:=by
 obtain⟨h1,h2⟩:=uC h;rw[←h2];exact List.set_getElem_self h1
theorem eh.same{lo:Nat}{w0 w:World}{L:List (bH×oJ)}(H:eh lo w0 w L){r:bH}{b cap j:Nat}{cs:List Value}{v:Value}(hx:(r,some b,cap,cs)∈L)(hv:cs[j]?=some v):eh lo w0 (w.setCell ⟨b,j,none⟩ v) L:=by
 have hb:=(H.lies _ hx b rfl).1;refine⟨H.below.setCell (p:=⟨b,j,none⟩) hb v,by simpa[World.setCell]using H.tL,H.nd,fun e he b' h=>⟨(H.lies e he b' h).1,?_⟩,H.none_⟩;have hl:=(H.lies e he b' h).2;by_cases e1:b'=b
 ·subst e1;have:=BL H.nd he hx h rfl;subst this;have:=hl.set j v;rw[show(r,some b',cap,cs).2.2.2=cs from rfl,Qf hv]at this;exact this
 ·exact hl.other (fQ _ _ _ _ (by simpa using e1))
theorem eh.frozen{lo:Nat}{w0 w:World}{L:List (bH×oJ)}(H:eh lo w0 w L){r:bH}{b cap:Nat}{cs:List Value}(h:(r,some b,cap,cs)∈L)(j:Nat):w.frozen? ⟨b,j,none⟩=false:=(H.lies _ h b rfl).2.frozen j
theorem Gf(ca ma a0 a1:Option Addr)(cc mc c0 c1:Nat)(w:World)(hC:∃b off,ca=some ⟨b,off,none⟩∧b<w.heap.size∧w.cell? ⟨b,off,none⟩=some (.slice a0 0 c0)∧w.cell? ⟨b,off+1,none⟩=some (.slice a1 0 c1)):Calls prog 131 #[I 2,I 1,.slice ca 2 cc,.slice ma 0 mc,I 0] w fun e w'=>∃b g q,e=.returned (.tuple #[.pointer (some ⟨b,0,none⟩),I 0])∧eh w.heap.size w w' [(.ar,some b,0,[I 2,I 1,.slice (some ⟨g,0,none⟩) 2 2,.slice none 0 0,I 0,.slice (some ⟨q,0,none⟩) 2 2]),(.aC,some g,2,[.slice none 0 0,.slice none 0 0]),(.bV,some q,2,[B false,B false])]:=by
 obtain⟨i0,hi,fV,gF,gG⟩:=info_parts lC;have X0:eh w.heap.size w w []:=⟨fp _ _,Nat.le_refl _,by simp,fun e h=>by simp at h,fun e h=>by simp at h⟩;have HP:=ag (E1 2 2 1 (by omega) (by omega) (by decide) X0);have HC:=ag hC;have HS:=ag DT;clear X0 hC;go_enter func131,ntmps131;obtain⟨cb,off,rfl,dD,_,_⟩:=HC.out
 have XP:Hid (∀W,Below w.heap.size w W→W.cell? ⟨cb,off,none⟩=some (.slice a0 0 c0)∧W.cell? ⟨cb,off+1,none⟩=some (.slice a1 0 c1)):=fun W hB=>by
  obtain⟨cb',VK,e,h1,h2,h3⟩:=HC.out
  cases e;exact⟨cw hB cG _ _ h2,cw hB cG _ _ h3⟩
 go_upto_region 7 with(go_at_call 78;refine HP.out.mono ?_;rintro e w2 ⟨b,g,q,rfl,X⟩;have HX:Hid (eh w.heap.size w w2 [(.ar,some b,0,[I 2,I 1,.slice (some ⟨g,0,none⟩) 2 2,.slice none 0 0,I 0,.slice (some ⟨q,0,none⟩) 2 2]),(.aC,some g,2,[.slice none 0 0,.slice none 0 0]),(.bV,some q,2,[B false,B false])]):=X;have x4:=X.cell (r:=.ar) (j:=4) (rn ..) rfl;have f4:=X.frozen (r:=.ar) (rn ..) 4;clear X)
 have h0:=ag (HX.out.same (r:=.ar) (j:=4) (v:=I 0) (rn ..) rfl);clear HX x4 f4 HP dD;go_wp2_with fail
 go_loopw [40] (fun i wr=>∃k:Nat,i=.int .i64 k∧k≤2∧Hid (eh w.heap.size w wr [(.ar,some b,0,[I 2,I 1,.slice (some ⟨g,0,none⟩) 2 2,.slice none 0 0,I 0,.slice (some ⟨q,0,none⟩) 2 2]),(.aC,some g,2,[.slice none 0 0,.slice none 0 0]),(.bV,some q,2,[B false,B false])])) (fun i _=>2-(intOf i).toNat)
 case atStart=>exact⟨0,rfl,by omega,h0⟩
 case round=>
  clear h0;obtain⟨k,rfl,hk,HX⟩:=hrel;have f2:=HX.out.frozen (r:=.aC) (nO _ (rn ..)) k;have p3:=HX.out.cell (r:=.ar) (j:=3) (rn ..) rfl;have p2:=HX.out.cell (r:=.ar) (j:=2) (rn ..) rfl;have fp3:=HX.out.frozen (r:=.ar) (rn ..) 3;by_cases dD:k<2
  ·obtain⟨ak,ck,d0⟩:∃ak ck,wr.cell? ⟨cb,off+k,none⟩=some (.slice ak 0 ck):=by
    obtain⟨h1,h2⟩:=XP.out wr HX.out.below;rcases(show k=0∨k=1 by omega)with rfl|rfl
    ·exact⟨_,_,h1⟩
    ·exact⟨_,_,h2⟩
   have q2:wr.cell? ⟨g,k,none⟩=some (.slice none 0 0):=by
    rcases(show k=0∨k=1 by omega)with rfl|rfl
    ·exact HX.out.cell (r:=.aC) (j:=0) (nO _ (rn ..)) rfl
    ·exact HX.out.cell (r:=.aC) (j:=1) (nO _ (rn ..)) rfl
   have HN:Hid (∀W:World,eh w.heap.size w W [(.ar,some b,0,[I 2,I 1,.slice (some ⟨g,0,none⟩) 2 2,.slice none 0 0,I 0,.slice (some ⟨q,0,none⟩) 2 2]),(.aC,some g,2,[.slice none 0 0,.slice none 0 0]),(.bV,some q,2,[B false,B false])]→eh w.heap.size w (W.setCell ⟨g,k,none⟩ (.slice none 0 0)) [(.ar,some b,0,[I 2,I 1,.slice (some ⟨g,0,none⟩) 2 2,.slice none 0 0,I 0,.slice (some ⟨q,0,none⟩) 2 2]),(.aC,some g,2,[.slice none 0 0,.slice none 0 0]),(.bV,some q,2,[B false,B false])]):=fun W X=>by
    rcases(show k=0∨k=1 by omega)with rfl|rfl
    ·exact X.same (r:=.aC) (j:=0) (nO _ (rn ..)) rfl
    ·exact X.same (r:=.aC) (j:=1) (nO _ (rn ..)) rfl
   go_upto_region 12 with(go_at_call 191;refine(HS.out _ _ _ _).mono ?_;rintro e w3 ⟨rfl,rfl⟩)
   cases ak
   all_goals
    go_region;go_wp2;go_roundw
    case rel=>exact⟨k+1,by go_num,by omega,ag (HN.out _ HX.out.drew)⟩
    case measure=>simp[intOf];omega
  ·obtain rfl:k=2:=by omega
   go_wp2_with (first|(go_at_call 191;refine(HS.out _ _ _ _).mono ?_;rintro e w3 ⟨rfl,rfl⟩)|(at_builtin;refine gO rfl (.const (.slice none 0 0)) (.tmp 69) 28 rfl underlying28 hi rfl _ _ rfl ?_));go_ret2;exact⟨b,g,q,rfl,HX.out.same (r:=.ar) (j:=3) (rn ..) rfl⟩
end Go.Proofs.YtadifmnmfnihdaaGreat
namespace Go.Proofs.YtadifmnmfnihdaaGreat
open Go.RowKit Go.Maps Go.ChangeMaps Go.Proofs.Tryz
theorem DU(w:World):Calls prog 27 #[] w fun e w'=>∃s b1 b2,e=.returned (.pointer (some ⟨s,0,none⟩))∧fH w' s b1 b2 0 0 (fun _=>0) (fun _=>0)∧Below w.heap.size w w'∧w.heap.size≤s∧w.heap.size≤b1∧w.heap.size≤b2:=by
 have sN:∀W:World,(Instr.makeMap 120 none).run prog W=.ok (.map (some W.heap.size)) (W.alloc (.map #[] 0)):=fun W=>by simp[Instr.makeMap,run_underlying underlying120]
 go_enter func27,ntmps27;go_wp2;go_ret;have s1:(w.alloc (.map #[] 0)).heap.size=w.heap.size+1:=by simp
 have s2:((w.alloc (.map #[] 0)).alloc (.map #[] 0)).heap.size=w.heap.size+1+1:=by simp
 have o1:=jh.cZ w;have o2:=jh.cZ (w.alloc (.map #[] 0));have mz:=(fp (w.alloc (.map #[] 0)).heap.size (w.alloc (.map #[] 0))).alloc cG (.map #[] 0);have Hl:=(fp ((w.alloc (.map #[] 0)).alloc (.map #[] 0)).heap.size ((w.alloc (.map #[] 0)).alloc (.map #[] 0))).alloc cG (.cells #[.map (some w.heap.size),.map (some (w.heap.size+1))] 122);rw[s1]at o2;refine⟨_,w.heap.size,w.heap.size+1,rfl,⟨by rw[←s2];exact dP _ _,(o1.below mz).below Hl,o2.below Hl,by omega,by omega,by omega⟩,((((fp _ _).alloc cG _).alloc (by rw[s1];omega) _).alloc (by rw[s2];omega) _),by omega,by omega,by omega⟩
def qV(f:Int→Int)(who:Int)(l:List Int):Int:=l.foldl (fun who g=>if f who<f g then g else who) who
theorem Mz(f:Int→Int)(who:Int)(l:List Int)(g:Int):qV f who (l++[g])=if f (qV f who l)<f g then g else qV f who l:=by unfold qV;rw[List.foldl_append];rfl
theorem sw(f:Int→Int):∀(l:List Int) (who:Int),qV f who l=who∨qV f who l∈l
 | [],_=> .inl rfl
 |g::l,who=>by
  unfold qV;rw[List.foldl_cons];rcases sw f l (if f who<f g then g else who)with h|h
  ·unfold qV at h;rw[h];split
   ·exact .inr (by simp)
   ·exact .inl rfl
  ·exact .inr (nO _ h)
theorem Gg{s b1 b2 n1 n2 m:Nat}{f1 f2:Int→Int}{run:List Int}(r:Option Addr)(c:Nat)(k:Int)(n:Nat)(w:World)(hm:m=run.length)(ap9:m≤20)(h0:0<m)(hA:fH w s b1 b2 n1 n2 f1 f2)(hr:Rd .i64 w r run)(SX:∀z∈run,(Lit.int .i64 z).wf=true)(hf:∀g,0≤f1 g∧f1 g≤1000000)(hk:0≤k∧k≤1000000)(hn:n≤1000):Calls prog 29 #[.pointer (some ⟨s,0,none⟩),.slice r m c,I k,I n] w fun e w'=>e=.returned (.tuple #[I (qV f1 (run.getD 0 0) run),.bool (decide (k≤f1 (qV f1 (run.getD 0 0) run)+n))])∧∃d,w'=w.drewN d:=by
 obtain⟨HM,HA,HR,HF,SY⟩:=jW hm hA hr hf SX;have Dj:=hA.c0;obtain⟨b,off,rfl,fa⟩:=hr.2 (by rw[←hm];exact h0);have e0:=fa 0 (by rw[←hm];exact h0);obtain⟨x0,Hm⟩:=dC (run.getD 0 0);rw[←Hm]at e0 ⊢;rw[Nat.add_zero]at e0;have HX0:=ag Hm;have BJ:=ag fa;clear hm hA hr SX hf fa Hm;go_enter func29,ntmps29;go_wp2;clear e0;go_loopw [10,18] (fun who i wr=>∃j:Nat,i=.int .i64 j∧j≤m∧who=I (qV f1 x0 (run.take j))∧Hid (∃d,wr=w.drewN d)) (fun _ i _=>m-(intOf i).toNat)
 case atStart=>exact⟨0,rfl,by omega,rfl,0,rfl⟩
 case round=>
  obtain⟨j,rfl,hj,rfl,HD⟩:=hrel;have j8:∀a,wr.cell? a=w.cell? a:=fun a=>by obtain⟨d,hd⟩:=HD.out;rw[hd];rfl
  have uY:run.take m=run:=by rw[HM.out];exact List.take_length
  by_cases dD:j<m
  ·obtain⟨y,hy⟩:=dC (run.getD j 0);have ey:wr.cell? ⟨b,off+j,none⟩=some (I y):=by rw[j8,hy];exact BJ.out j (by rw[←HM.out];exact dD)
   have Wa:run[j]?=some y:=(by rw[hy,yk,fv (by rw[←HM.out];exact dD)];rfl);have XL:=SY.out y (lf Wa);obtain⟨wh,gp⟩:=dC (qV f1 x0 (run.take j))
   have Qg:(Lit.int .i64 wh).wf=true:=by
    rcases sw f1 (run.take j) x0 with h|h
    ·rw[gp,h,HX0.out];exact SY.out _ (by rw[yk,fv (by rw[←HM.out];exact h0)];exact List.getElem_mem _)
    ·rw[gp];exact SY.out _ (List.mem_of_mem_take h)
   have XU:jh {wr with drawn:=wr.drawn+1} b1 n1 f1:=(by obtain⟨d,hd⟩:=HD.out;rw[hd];exact HA.out.m1);have l1:=XU.lookup XL;have l2:=XU.lookup Qg;have d0:wr.cell? ⟨s,0,none⟩=some (.map (some b1)):=(by rw[j8];exact Dj);have Cf:qV f1 x0 (run.take (j+1))=if f1 wh<f1 y then y else wh:=by rw[ox Wa,Mz,←gp]
   rw[←gp];obtain⟨fy,hfy⟩:∃q,q=f1 y:=⟨_,rfl⟩;obtain⟨fw,WX⟩:∃q,q=f1 wh:=⟨_,rfl⟩;rw[←hfy]at l1;rw[←WX]at l2;rw[←hfy,←WX]at Cf;have HN:=ag Cf;obtain⟨L1,L2⟩:=dA l1 l2;clear hy Wa XL gp Qg hfy WX Cf l1 l2 j8 XU;go_upto_region 5 with fail
   go_still_tail 12,(by kernel_rfl);refine lX rfl (.tmp 25) (.tmp 26) rfl b1 (I y) (I fy) rfl rfl L1.out ?_;repeat still_step
   refine lX rfl (.tmp 31) (.tmp 32) rfl b1 (I wh) (I fw) rfl rfl L2.out ?_;refine wpStill_nil ?_;change wpList _ _ _ _ _ wr.drew;have HD2:Hid (∃d,wr.drew=w.drewN d):=(by obtain⟨d,hd⟩:=HD.out;exact⟨d+1,by rw[hd];simp[World.drew,World.drewN,Nat.add_assoc]⟩);clear L1 L2 HD d0 ey;by_cases Xu:fw<fy
   ·have hN:=HN.out;rw[aF Xu]at hN;have KG:Hid (I y=I (qV f1 x0 (run.take (j+1)))):=(by rw[hN];rfl);clear hN HN;go_wp2;go_roundw
    case rel=>exact⟨j+1,by go_num,by omega,KG.out,HD2⟩
    case measure=>simp[intOf];omega
   ·have hN:=HN.out;rw[aE Xu]at hN;have KG:Hid (I wh=I (qV f1 x0 (run.take (j+1)))):=(by rw[hN];rfl);clear hN HN;go_wp2;go_roundw
    case rel=>exact⟨j+1,by go_num,by omega,KG.out,HD2⟩
    case measure=>simp[intOf];omega
  ·obtain rfl:j=m:=by omega
   rw[uY];obtain⟨wh,gp⟩:=dC (qV f1 x0 run)
   have Qg:(Lit.int .i64 wh).wf=true:=by
    rcases sw f1 run x0 with h|h
    ·rw[gp,h,HX0.out];exact SY.out _ (by rw[yk,fv (by rw[←HM.out];exact h0)];exact List.getElem_mem _)
    ·rw[gp];exact SY.out _ h
   have XU:jh {wr with drawn:=wr.drawn+1} b1 n1 f1:=(by obtain⟨d,hd⟩:=HD.out;rw[hd];exact HA.out.m1);have l2:=XU.lookup Qg;have d0:wr.cell? ⟨s,0,none⟩=some (.map (some b1)):=(by rw[j8];exact Dj);have hfb:=HF.out wh;rw[←gp];obtain⟨fw,WX⟩:∃q,q=f1 wh:=⟨_,rfl⟩;rw[←WX]at l2 hfb;obtain⟨L2,HWH,TD⟩:=ij l2 gp WX;clear l2 Qg gp XU j8 uY WX;go_upto_region 8 with fail
   refine wp_region_still_lit (by kernel_rfl) (by kernel_rfl) ?_;repeat still_step
   refine lX rfl (.tmp 42) (.tmp 43) rfl b1 (I wh) (I fw) rfl rfl L2.out ?_;repeat still_step
   refine wpStill_nil ?_;go_wp2;go_ret2;obtain⟨d,hd⟩:=HD.out;refine⟨?_,d+1,by rw[hd];simp[World.drew,World.drewN,Nat.add_assoc]⟩;rw[←HWH.out,←TD.out];have hwr:IntKind.i64.wrap (fw+(n:Int))=fw+n:=jX _ (by omega);rw[hwr];rfl
end Go.Proofs.YtadifmnmfnihdaaGreat
