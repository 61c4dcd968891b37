import Derived.Test.YtadifmnmfnihdaaGreatA07
set_option linter.all false
set_option maxRecDepth 100000
set_option maxHeartbeats 40000000
namespace Go.Proofs.YtadifmnmfnihdaaGreat
open Go.RowKit Go.Proofs.Tryz
theorem BO{B e n:Nat}{w:World}{v:Value}{xs:List Value}(h:w.ownsRow B e 1 v n xs)(hn:v≠ .slice none 0 0):∃g cap,v=.slice (some ⟨g,0,none⟩) n cap∧B≤g∧g<w.heap.size∧n≤cap:=by
 rcases h.2 with⟨rfl,h0⟩|⟨g,cap,cur,rfl,hB,hg,hc,_⟩
 ·exact aX rfl hn
 ·exact⟨g,cap,rfl,hB,(dh hg).1,hc⟩
theorem E3{B B' e n:Nat}{w:World}{v:Value}{xs:List Value}(h:w.ownsRow B e 1 v n xs)(hB:B'≤B):w.ownsRow B' e 1 v n xs:=by
 refine⟨h.1,?_⟩;rcases h.2 with h0|⟨g,cap,cur,hv,hb,r⟩
 ·exact .inl h0
 ·exact .inr ⟨g,cap,cur,hv,oX,r⟩
def oK(out:List Int)(x:Int):List Int:=if x≤0 then out else if 0<out.length∧out.getD (out.length-1) 0=x then out else out++[x]
def fb(s:List Int)(k:Nat):List Int:=(s.take k).foldl oK []
def rZ(l:List Int):List Int:=fb (yH l) l.length
theorem CR(s:List Int):fb s 0=[]:=by simp[fb]
theorem CT(s:List Int)(k:Nat)(h:k<s.length):fb s (k+1)=oK (fb s k) (s.getD k 0):=by
 unfold fb;rw[List.take_succ_eq_append_getElem h,List.foldl_append];simp[List.getD,h]
structure LK(B B1:Nat)(s:List Int)(V0:Value)(w1:World)(k m:Nat)(v:Value)(wr:World):Prop where
 val:(m=0∧v=V0)∨(0<m∧wr.ownsRow B1 3 1 v m ((fb s k).map (Value.int .i64)))
 len:m=(fb s k).length
 below:Below B1 w1 wr
theorem vW(zs:List Int)(n:Nat)(hn:n=zs.length)(a:Option Addr)(c:Nat)(w:World)(h:Rd .i64 w a zs)(hs:n≤1000):Calls prog 199 #[.slice a n c] w (vH w (rZ zs)):=by
 obtain⟨i0,hi,fV,gF,gG⟩:=info_parts lC;have Hn:=ag hn;clear hn;go_enter func199,ntmps199;go_wp2_with fail
 refine(N8 zs n Hn.out a c _ h hs).mono ?_;rintro e w1 ⟨v,rfl,hown,hb⟩;obtain⟨ao,cap,rfl,jF⟩:=hown.rd (by rw[lI,←Hn.out];omega);rw[lI,←Hn.out];obtain⟨s,RY⟩:=dC (yH zs);rw[←RY]at jF;have mj:s.length=n:=by rw[RY,lI,←Hn.out]
 have Hsd:=ag RY;clear RY;have Hsl:=ag mj;clear mj;have HR:=ag jF;clear jF hown h;have HB:=ag hb;clear hb;have H0:Hid (∀W:World,Below w1.heap.size w1 W→W.ownsRow w.heap.size 3 1 (.slice none 0 0) 0 []):=fun W _=>World.ownsRow_nil _ _ _ _
 have HL:Hid (LK w.heap.size w1.heap.size s (Value.slice none 0 0) w1 0 0 (Value.slice none 0 0) w1):=⟨.inl ⟨rfl,rfl⟩,by rw[CR];rfl,.refl _ _⟩;go_wp2;go_loopw [3,5,9] (fun v _ i wr=>∃(vv:Value) (k m:Nat),vv=v∧k≤n∧m≤k∧i=.int .i64 k∧Hid (LK w.heap.size w1.heap.size s (Value.slice none 0 0) w1 k m vv wr)) (fun _ _ i _=>n-(intOf i).toNat)
 case atStart=>exact⟨_,0,0,rfl,Nat.zero_le _,Nat.le_refl _,rfl,HL⟩
 case round=>
  clear HL;obtain⟨vv,k,m,rfl,hk,sN,rfl,HL⟩:=hrel;by_cases dD:k<n
  ·obtain⟨b,off,rfl,hc⟩:=(HR.out.below HL.out.below cG).at k (by rw[Hsl.out];exact dD);obtain⟨x,hx⟩:=named (s.getD k 0);rw[←hx.out]at hc;have jf:=CT s k (by rw[Hsl.out];exact dD);rw[←hx.out]at jf;have Hst:=ag jf;clear jf;by_cases Hm:x≤0
   ·have VR:Hid (LK w.heap.size w1.heap.size s (Value.slice none 0 0) w1 (k+1) m vv wr):=by
     have e:fb s (k+1)=fb s k:=(by rw[Hst.out];unfold oK;rw[aF Hm]);exact bg0
    exact bc8
   ·by_cases hm0:m=0
    ·subst hm0
     have hv:vv=(Value.slice none 0 0):=by
      rcases HL.out.val with h|h
      ·exact h.2
      ·omega
     have kK:fb s k=[]:=xn HL.out.len.symm;subst hv;have hsz:=HL.out.below.size;go_wp2_with (at_builtin;go_loud (refine sZ rfl (.tmp 30) (.tmp 32) 28 rfl 3 i0 (.int .i64 0) 8 underlying28 hi fV gF gG rfl oX _ rfl ⟨wr.heap.size,0,none⟩ 1 (.int .i64 x) rfl (by simp[go_sem]) rfl ?_));intro pF w2 fu jV;have VR:Hid (LK w.heap.size w1.heap.size s (Value.slice none 0 0) w1 (k+1) 1 (.slice (some ⟨wr.heap.size+1,0,none⟩) 1 pF) w2):=(by have e:fb s (k+1)=[x]:=(by rw[Hst.out,kK];unfold oK;rw[aE oX,aE sX];rfl);refine⟨.inr ⟨oX,?_⟩,by rw[e];rfl,(HL.out.below.alloc hsz _).grown jV bi8 (by intro q hq;cases hq)⟩;rw[e];exact E3 (by simpa using fu) oX);clear fu jV;go_wp2;go_roundw
     case rel=>exact⟨_,k+1,1,rfl,oX,oX,bl2,VR⟩
     case measure=>simp[intOf];omega
    ·have ho:wr.ownsRow w1.heap.size 3 1 vv m ((fb s k).map (Value.int .i64)):=by
      rcases HL.out.val with h|h
      ·omega
      ·exact h.2
     obtain⟨g,pF,rfl,hg1,EU,Oi⟩:=BO ho (by rintro rfl;have:=ho.2;simp at this;omega);have J8:=HL.out.len;have cy:=ho.cellAt (m-1) oX;have cy2:wr.cell? ⟨g,m-1,none⟩=some (.int .i64 ((fb s k).getD (m-1) 0)):=(by rw[cy];simp[List.getD,show m-1<(fb s k).length by omega]);obtain⟨y,hy⟩:=named ((fb s k).getD (m-1) 0);rw[←hy.out]at cy2;have Hll:=ag J8;have HO:=ag ho;have hm1:(0:Int)<(m:Int):=oX;have ny:((m:Int)==0)=false:=bi8;have p1:(0:Int)≤(m:Int)-1:=oX;have p2:((m:Int)-1).toNat=m-1:=oX;have hsz:=HL.out.below.size;clear cy J8 ho;by_cases Nd:y=x
     ·subst Nd
      have VR:Hid (LK w.heap.size w1.heap.size s (Value.slice none 0 0) w1 (k+1) m (.slice (some ⟨g,0,none⟩) m pF) wr):=by
       have e:fb s (k+1)=fb s k:=(by rw[Hst.out];unfold oK;rw[aE oX,aF ⟨by rw[←Hll.out];omega,by rw[←Hll.out,←hy.out]⟩]);exact bg0
      exact bc8
     ·have ay0:(y==x)=false:=(by simpa using Nd);have ay1:(y !=x)=true:=(by simpa using Nd);go_wp2_with (at_builtin;go_loud (refine wpList_append_own _ rfl (.tmp 30) (.tmp 32) 28 rfl w1.heap.size 3 i0 (.int .i64 0) 1 8 underlying28 hi fV gF gG rfl dX _ _ _ rfl (HO.out.alloc _) ⟨wr.heap.size,0,none⟩ 1 1 [.int .i64 x] rfl rfl (cell_one_new _ _ _) bo3 bj4 oX bi8 ?_));intro v' w2 fu jV E4;have VR:Hid (LK w.heap.size w1.heap.size s (Value.slice none 0 0) w1 (k+1) (m+1) v' w2):=(by have e:fb s (k+1)=fb s k++[x]:=(by rw[Hst.out];unfold oK;rw[aE oX,aE (by rw[←Hll.out,←hy.out];exact fun h=>Nd h.2)]);refine⟨.inr ⟨oX,?_⟩,by rw[e,py,←Hll.out];rfl,(HL.out.below.alloc hsz _).grown jV bi8 (by intro q hq;simp[Value.ownBlock]at hq;omega)⟩;rw[e];simpa using fu);obtain⟨g',hU,rfl,-,-,-⟩:=BO fu (fun e=>by simp[e]at E4);clear fu jV E4;go_wp2;go_roundw
      case rel=>exact⟨_,k+1,m+1,rfl,oX,oX,bl2,VR⟩
      case measure=>simp[intOf];omega
  ·obtain rfl:k=n:=by omega
   go_wp2;go_ret;refine⟨_,rfl,?_,HB.out.trans (HL.out.below.mono HB.out.size)⟩;have e:rZ zs=fb s k:=(by unfold rZ;rw[←Hsd.out,←Hn.out]);unfold yv;rw[e,←HL.out.len];rcases HL.out.val with h|h
   ·have kK:fb s k=[]:=xn (by rw[←HL.out.len];exact h.1);obtain rfl:=h.1;rw[kK,h.2];exact H0 _ HL.out.below
   ·exact E3 h.2 HB.out.size
open Mach
section
variable{af:Nat}{F:Fx}{w w0 w':World}{m m0 m':Mem}{S S':Wd}{L:List (Nat×Obj)}
theorem bz.rowAt(R:bz af F w m S){r:bH}{xs:List Int}(hc:aj m S r=xs.map I){i:Nat}{v:Int}(hv:xs[i]?=some v):∃b,m.aV r=some b∧m.cU r xs.length=.slice (some ⟨b,0,none⟩) xs.length (m.cap r)∧w.cell? ⟨b,i,none⟩=some (I v):=by
 have cM:aj m S r≠[]:=by rw[hc];intro h;have:=cA hv;simp at h;subst h;simp at this
 obtain⟨b,hb⟩:=R.has cM;refine⟨b,hb,Mem.de hb _,R.cell hb ?_⟩;rw[hc,na,hv];rfl
section
variable(R:bz af F w m S){g:Nat}{x:bI}(hx:S.gs[g]?=some x){i:Nat}{v:Int}
include R hx
theorem bz.Sx(hv:x.aH[i]?=some v):∃b,m.aV (.aH g)=some b∧m.cU (.aH g) x.aH.length=.slice (some ⟨b,0,none⟩) x.aH.length (m.cap (.aH g))∧w.cell? ⟨b,i,none⟩=some (I v):=R.rowAt bn9 hv
theorem bz.CU(hv:x.aq[i]?=some v):∃b,m.aV (.aq g)=some b∧m.cU (.aq g) x.aq.length=.slice (some ⟨b,0,none⟩) x.aq.length (m.cap (.aq g))∧w.cell? ⟨b,i,none⟩=some (I v):=R.rowAt bn9 hv
theorem bz.ti(hv:x.bA[i]?=some v):∃b,m.aV (.bA g)=some b∧m.cU (.bA g) x.bA.length=.slice (some ⟨b,0,none⟩) x.bA.length (m.cap (.bA g))∧w.cell? ⟨b,i,none⟩=some (I v):=R.rowAt bn9 hv
end
section
variable(R:bz af F w m S)(g:Nat)(x:bI)(hx:S.gs[g]?=some x)
include R g x hx
theorem vX(h:Int)(hh:dU x=some h):Calls prog 170 #[bR F,I g] w (eL (I h) fun w'=>∃n,w'=w.drewN n):=by
 obtain⟨k,hk,vA,hkv⟩:=mO hh;obtain⟨b,hb,hd,hc⟩:=R.Sx hx hkv;have eM:=cA hx;have c3:=R.eu;have g20:=R.g hx 20 _ rfl;have g24:=R.g hx 24 _ rfl;rw[hd]at g20;rw[hk]at g24;clear R hx hh hk hkv hb hd;unfold bR;go_enter func170,ntmps170;go_wp2_with fail
 go_quiet (fail);go_wp2;go_ret;exact⟨rfl,_,rfl⟩
theorem tj(p:Int):Calls prog 175 #[bR F,I g,I p] w (ee fun w'=>At af F m w m w' (S.ay g (eZ x p))):=by
 have eM:=cA hx;have c3:=R.eu;obtain⟨g2,xV⟩:=R.ps hx 2 _ rfl;have g21:=R.g hx 21 _ rfl;obtain⟨g24,E5⟩:=R.ps hx 24 _ rfl;obtain⟨aU,cm,aY,aZ⟩:=R.pB;obtain⟨a,c,hd⟩:=R.shape (r:=.aq g) (n:=x.aq.length) bm7;rw[hd]at g21;have A1:=(At.refl R).g hx {x with k:=x.aq.length} (q:=24) (v:=I x.aq.length);have A2:=A1.g (az hx) (eZ x p) (q:=2) (v:=I p);rw[aA]at A2;have HA:=ag A2;clear R hx A1 A2 hd;unfold bR;go_enter func175,ntmps175;go_wp2_with fail
 go_region
 all_goals
  go_wp2;exact ba9
theorem LG:Calls prog 179 #[bR F,I g] w (eL (I (hJ x)) fun w'=>w=w'):=by
 have eM:=cA hx;have c3:=R.eu;have g23:=R.g hx 23 _ rfl;obtain⟨a,c,hd⟩:=R.shape (r:=.wakes g) (n:=x.wakes.length) bm7;rw[hd]at g23;unfold hJ;by_cases hw:x.wakes=[]
 ·rw[aF hw];rw[show x.wakes.length=0 by rw[hw];rfl]at g23;clear R hx hd hw;unfold bR;go_enter func179,ntmps179;exact aW5
 ·rw[aE hw];have hl:0<x.wakes.length:=pd hw;have hb:decide ((0:Int)<(x.wakes.length:Int))=true:=by simp;omega
  obtain⟨n,hn⟩:=dC (x.wakes.length);rw[←hn]at g23 hb hl;clear R hx hd hw hn;unfold bR;go_enter func179,ntmps179;go_wp2;go_ret;exact⟨rfl,rfl⟩
end
end
theorem zx(l l':List (Int×Bool))(i:Nat):eY i (l++l')=eY i l++eY (i+l.length) l':=by
 induction l generalizing i with
 |nil=>simp[eY]
 |cons x l ih=>
  obtain⟨st,tk⟩:=x;simp only[sY,eY,ih,sV];rw[show i+1+l.length=i+(l.length+1)by omega];split<;>simp
theorem DJ{b:List (Int×Bool)}{k:Nat}{st:Int}{tk:Bool}(h:b[k]?=some (st,tk)):eY 0 (b.take (k+1))=if st=0 then eY 0 (b.take k)++[(k:Int)]else eY 0 (b.take k):=by
 have hk:=cA h;rw[List.take_succ,h,zx];simp only[Option.toList_some,eY,tC,Nat.zero_add];rw[Nat.min_eq_left oX];split<;>simp
theorem xg(b:List (Int×Bool))(i:Nat):(eY i b).length≤b.length:=by
 induction b generalizing i with
 |nil=>simp[eY]
 |cons x l ih=>
  obtain⟨st,tk⟩:=x;simp only[eY];have:=ih (i+1);split<;>simp<;>omega
structure WJ(H:Nat)(w:World)(b:List (Int×Bool))(k n:Nat)(v:Value)(wr:World):Prop where
 own:wr.ownsRow H 3 1 v n ((eY 0 (b.take k)).map I)
 len:n=(eY 0 (b.take k)).length
 below:Below H w wr
section
variable{af:Nat}{F:Fx}{w w0 w':World}{m m0 m':Mem}{S S':Wd}{L:List (Nat×Obj)}
theorem DK(R:bz af F w m S)(hb:S.ax.length≤1000):Calls prog 59 #[.pointer (some ⟨F.dB,0,none⟩)] w (vH w (cE S.ax)):=by
 obtain⟨i0,hi,fV,gF,gG⟩:=info_parts lC;have c0:=R.Bu;have ES:=ag (fun(j:Nat) (st:Int) (tk:Bool) (h:S.ax[j]?=some (st,tk))=>R.one h);have dD:=R.lt R.aB.ax;obtain⟨n,hn⟩:=dC (S.ax.length);have HN:=ag hn;rw[←hn]at c0 hb;clear R hn;go_enter func59,ntmps59;go_wp2;go_loopw [3,4,5,11] (fun v _ _ i wr=>∃(k q:Nat) (vv:Value),vv=v∧i=.int .i64 k∧k≤n∧q≤k∧Hid (WJ w.heap.size w S.ax k q vv wr)) (fun _ _ _ i _=>n-(intOf i).toNat)
 case atStart=>exact⟨0,0,_,rfl,rfl,oX,oX,⟨World.ownsRow_nil _ _ _ _,rfl,fp _ _⟩⟩
 case round=>
  obtain⟨k,q,vv,rfl,rfl,hk,hq,HP⟩:=hrel;by_cases hl:k<n
  ·obtain⟨⟨st,tk⟩,hx⟩:∃x,S.ax[k]?=some x:=⟨_,fv (by rw[←HN.out];exact hl)⟩;obtain⟨e0,e1⟩:=ES.out k st tk hx;have e0:wr.cell? ⟨F.ax,k*2,none⟩=some (I st):=by rw[HP.out.below.cell (p:=⟨F.ax,k*2,none⟩) dD];exact e0
   have e1:wr.cell? ⟨F.ax,k*2+1,none⟩=some (B tk):=(by rw[HP.out.below.cell (p:=⟨F.ax,k*2+1,none⟩) dD];exact e1);have hsz:=HP.out.below.size;have HT:=ag (DJ hx);clear hx;by_cases h0:st=0
   ·subst h0
    obtain⟨va,vc,rfl⟩:∃va vc,vv=.slice va q vc:=by
     rcases HP.out.own.2 with⟨h1,h2⟩|⟨g,cap,cur,h1,_⟩
     ·exact⟨none,0,by rw[h1,h2]⟩
     ·exact⟨_,_,h1⟩
    go_wp2_with (at_builtin;go_loud (refine wpList_append_own _ rfl (.tmp 19) (.tmp 21) 28 rfl w.heap.size 3 i0 (.int .i64 0) 1 8 underlying28 hi fV gF gG rfl dX _ _ _ rfl ((HP.out.own.alloc _).alloc _) ⟨wr.heap.size+1,0,none⟩ 1 1 [.int .i64 k] rfl rfl ?_ bo3 bj4 oX bi8 ?_));intro v' w2 fu jV E4
    have En:Hid (WJ w.heap.size w S.ax (k+1) (q+1) v' w2):=by
     have e:eY 0 (S.ax.take (k+1))=eY 0 (S.ax.take k)++[(k:Int)]:=(by rw[HT.out];simp);refine⟨?_,by rw[e,py,←HP.out.len];rfl,((HP.out.below.alloc hsz _).alloc bi8 _).grown jV bi8 ?_⟩
     ·rw[e,List.map_append];exact fu
     ·intro r hr;rcases HP.out.own.2 with⟨h1,h2⟩|⟨g,cap,cur,h1,h3,_⟩
      ·simp at h1;rw[h1.1]at hr;cases hr
      ·simp at h1;rw[h1.1]at hr;simp[Value.ownBlock]at hr;omega
    obtain⟨va2,vc2,rfl⟩:∃va2 vc2,v'=.slice va2 (q+1) vc2:=by
     rcases fu.2 with⟨h1,h2⟩|⟨g,cap,cur,h1,_⟩
     ·exact aX h1 E4
     ·exact⟨_,_,h1⟩
    clear fu jV E4;go_wp2;go_roundw
    case rel=>exact⟨k+1,q+1,_,rfl,bl2,oX,oX,En⟩
    case measure=>simp[intOf];omega
   ·have gq:(st==0)=false:=(by simpa using h0);have Xx:=HT.out;rw[aE h0]at Xx;have HP':Hid (WJ w.heap.size w S.ax (k+1) q vv (wr.alloc (.cells #[I st,B tk] 154))):=⟨by rw[Xx];exact HP.out.own.alloc _,by rw[Xx];exact HP.out.len,HP.out.below.alloc hsz _⟩;clear Xx h0;go_wp2;go_roundw
    case rel=>exact⟨k+1,q,_,rfl,bl2,oX,oX,HP'⟩
    case measure=>simp[intOf];omega
  ·obtain rfl:k=n:=by omega
   go_wp2;go_ret;have hh:=HP.out.own;have pJ:=HP.out.len;rw[yl (by rw[←HN.out];exact Nat.le_refl _)]at hh pJ;refine⟨_,rfl,?_,HP.out.below⟩;unfold yv;rw[show cE S.ax=eY 0 S.ax from rfl,←pJ];exact hh
end
def Oo:Array Value→Nat→List Value→Array Value
 |arr,_,[]=>arr
 |arr,o,v::vs=>Oo (arr.setIfInBounds o v) (o+1) vs
theorem oL{b:Nat}{t:TypeId}:∀(vs:List Value) (o:Nat) (w:World) (arr:Array Value),w.heap[b]?=some (.cells arr t (0,0))→(w.setCells b o vs).heap[b]?=some (.cells (Oo arr o vs) t (0,0))
 | [],_,_,_,h=>h
 |v::vs,o,w,arr,h=>oL vs (o+1) _ _ (heap_setCell_same w b o arr t v h)
theorem BQ:∀(vs:List Value) (o:Nat) (arr:Array Value),(Oo arr o vs).toList=fe arr.toList o vs
 | [],_,_=>rfl
 |v::vs,o,arr=>by rw[Oo,fe,BQ vs (o+1),Array.toList_setIfInBounds]
theorem dI{b:Nat}{t:TypeId}{w:World}{arr cs:Array Value}(h:w.heap[b]?=some (.cells arr t (0,0)))(hs:arr.size=cs.size):(w.setCells b 0 cs.toList).heap[b]?=some (.cells cs t (0,0)):=by
 have h1:=oL cs.toList 0 w arr h;have h2:=yG cs.toList arr.toList [] [] (by simpa using hs);have h3:Oo arr 0 cs.toList=cs:=by apply Array.toList_inj.1;rw[BQ];simpa using h2
 rw[h3]at h1;exact h1
theorem Below.setCells{B b:Nat}{a:World}(hb:B≤b):∀(vs:List Value) (o:Nat) (w:World),Below B a w→Below B a (w.setCells b o vs)
 | [],_,_,h=>h
 |v::vs,o,w,h=>Below.setCells hb vs (o+1) _ (h.setCell hb v)
theorem mR{A:Array Value}{f:Value→Bool}(h:A.all f=true){j:Nat}{v:Value}(hv:f v=true):(A.setIfInBounds j v).all f=true:=by
 rw[Array.all_eq_true]at h ⊢;intro i hi;rw[Array.getElem_setIfInBounds];split
 ·exact hv
 ·exact h i (by simpa using hi)
def CY(os:List cu):Prop:=os.length≤100∧∀o∈os,pW o.ai∧pW o.ch∧pW o.n∧pW o.v∧o.cases.length≤100∧∀c∈o.cases,pW c.ch∧pW c.v
theorem BR{os:List cu}(h:CY os):CQ [os]:=by
 refine⟨sX,fun j=>?_,fun j k o ho=>?_⟩
 ·cases j with
  |zero=>exact h.1
  |succ j=>simp
 ·cases j with
  |zero=>exact(h.2 o (lf ho)).2.2.2.2.1
  |succ j=>simp at ho
def qh(A:Array Value)(v0 v1 v2 v3 v4:Value):Array Value:=((((A.setIfInBounds 0 v0).setIfInBounds 20 v1).setIfInBounds 21 v2).setIfInBounds 22 v3).setIfInBounds 23 v4
structure CG(w W:World)(bx rs:Nat)(A Z:Array Value):Prop where
 below:Below w.heap.size w W
 le:w.heap.size≤bx∧w.heap.size≤rs∧bx≠rs
 box:W.heap[bx]?=some (.cells A 100 (0,0))
 res:W.heap[rs]?=some (.cells Z 100 (0,0))
section
variable{w W W':World}{bx rs:Nat}{A Z:Array Value}
theorem CG.call(H:CG w W bx rs A Z)(hb:Below W.heap.size W W'):CG w W' bx rs A Z:=
 ⟨H.below.trans (hb.mono H.below.size),H.le,(hb.block _ (dh H.box).1).trans H.box,(hb.block _ (dh H.res).1).trans H.res⟩
theorem CG.alloc(H:CG w W bx rs A Z)(o:Obj):CG w (W.alloc o) bx rs A Z:=H.call ((fp _ _).alloc cG o)
theorem CG.grown(H:CG w W bx rs A Z)(hg:W.grownBy W' none):CG w W' bx rs A Z:=H.call ((fp _ _).grown hg cG (by intro k hk;cases hk))
theorem CG.set(H:CG w W bx rs A Z)(j:Nat)(v:Value):CG w (W.setCell ⟨bx,j,none⟩ v) bx rs (A.setIfInBounds j v) Z:=
 ⟨H.below.setCell H.le.1 v,H.le,heap_setCell_same W bx j A 100 v H.box,(fQ _ _ _ _ (by simpa using dE H.le.2.2)).trans H.res⟩
theorem CG.cell(H:CG w W bx rs A Z){j:Nat}{v:Value}(h:A[j]?=some v):W.cell? ⟨bx,j,none⟩=some v:=by rw[cr _ _ _ _ _ _ H.box];exact h
theorem CG.frozen(H:CG w W bx rs A Z)(j:Nat):W.frozen? ⟨bx,j,none⟩=false:=iM _ _ _ _ _ H.box
theorem CG.Ib(H:CG w W bx rs A Z){a:Option Addr}{n:Nat}{cs:List Value}(h:gC w a n cs):gC W a n cs:=h.below H.below cG
end
theorem gC.grown{w w':World}{a:Option Addr}{n:Nat}{cs:List Value}(h:gC w a n cs)(hg:Below w.heap.size w w'):gC w' a n cs:=h.below hg cG
theorem gC.set{w:World}{a:Option Addr}{n:Nat}{cs:List Value}(h:gC w a n cs){b j:Nat}(v:Value)(cM:∀b' off,a=some ⟨b',off,none⟩→b'≠b):gC (w.setCell ⟨b,j,none⟩ v) a n cs:=fun h0=>by
 obtain⟨b',off,e,h1⟩:=h h0;refine⟨b',off,e,fun i u hu=>?_⟩;rw[kZ (w:=w) (fQ _ _ _ _ (by simpa using cM b' off e))];exact h1 i u hu
def iR(lo:Nat)(w w':World):Prop:=w.heap.size≤w'.heap.size∧∀b,lo≤b→b<w.heap.size→w'.heap[b]?=w.heap[b]?
theorem iR.mono{lo uw:Nat}{w w':World}(h:iR lo w w')(hl:lo≤uw):iR uw w w':=⟨h.1,fun b h1 h2=>h.2 b (by omega) h2⟩
theorem iR.trans{lo:Nat}{w w' w2:World}(h:iR lo w w')(k:iR lo w' w2):iR lo w w2:=⟨jm h.1 k.1,fun b h1 h2=>(k.2 b h1 (uB h2 h.1)).trans (h.2 b h1 h2)⟩
theorem iR.below{lo:Nat}{w w':World}(h:Below w.heap.size w w'):iR lo w w':=⟨h.size,fun b _ h2=>h.block b h2⟩
theorem iR.set{lo:Nat}{w:World}{b j:Nat}{v:Value}(h:b<lo):iR lo w (w.setCell ⟨b,j,none⟩ v):=⟨by simp[World.setCell],fun b' h1 _=>fQ _ _ _ _ (by simp;omega)⟩
theorem iR.Za{lo b:Nat}(h:b<lo):∀(vs:List Value) (j:Nat) (w:World),iR lo w (w.setCells b j vs)
 | [],_,w=>⟨Nat.le_refl _,fun _ _ _=>rfl⟩
 |v::vs,j,w=>(iR.set (w:=w) (j:=j) (v:=v) h).trans (iR.Za h vs (j+1) _)
theorem gC.keep{w w':World}{a:Option Addr}{n lo:Nat}{cs:List Value}(h:gC w a n cs)(hk:iR lo w w')(hl:∀b off,a=some ⟨b,off,none⟩→lo≤b):gC w' a n cs:=fun h0=>by
 obtain⟨b,off,e,h1⟩:=h h0;refine⟨b,off,e,fun j u hu=>?_⟩;have hv:=h1 j u hu;rw[kZ (w:=w) (a:=⟨b,off+j,none⟩) (hk.2 b (hl b off e) (xo _ _ hv))];exact hv
def lO(lo:Nat)(w W:World):Prop:=∀b,lo≤b→b<w.heap.size→W.heap[b]?=w.heap[b]?
theorem iR.nz{lo uw:Nat}{w w' W:World}(h:iR lo w w')(k:lO uw w' W)(hl:uw≤lo):lO lo w W:=fun b h1 h2=>(k b (by omega) (uB h2 h.1)).trans (h.2 b h1 h2)
theorem gC.nz{w W:World}{a:Option Addr}{n lo:Nat}{cs:List Value}(h:gC w a n cs)(hk:lO lo w W)(hl:∀b off,a=some ⟨b,off,none⟩→lo≤b):gC W a n cs:=fun h0=>by
 obtain⟨b,off,e,h1⟩:=h h0;refine⟨b,off,e,fun j u hu=>?_⟩;have hv:=h1 j u hu;rw[kZ (w:=w) (a:=⟨b,off+j,none⟩) (hk b (hl b off e) (xo _ _ hv))];exact hv
def VV(w:World)(A:Array Value)(os:List cu)(n1 n2 n3 n4:Nat)(k1 k2 k3 k4:List Value)(e:Ending)(w':World):Prop:=
 ∃oa oc b1 d1 b2 d2 b3 d3 b4 d4,e=.returned (.agg (qh A (.slice oa os.length oc) (.slice b1 n1 d1) (.slice b2 n2 d2) (.slice b3 n3 d3) (.slice b4 n4 d4)))∧
  (∀W,lO w.heap.size w' W→kC W oa os∧gC W b1 n1 k1∧gC W b2 n2 k2∧gC W b3 n3 k3∧gC W b4 n4 k4)∧Below w.heap.size w w'
theorem Fa(A:Array Value)(hsz:A.size=25)(Zb:A.all (·.oneCell')=true)(os:List cu)(oa:Option Addr)(oc:Nat)(a0:A[0]?=some (.slice oa os.length oc))(hI:CY os)(n1 n2 n3 n4:Nat)(k1 k2 k3 k4:List Value)(kE:k1.length=n1*1∧k2.length=n2*1∧k3.length=n3*1∧k4.length=n4*1)(hko:(∀u∈k1,u.oneCell'=true)∧(∀u∈k2,u.oneCell'=true)∧(∀u∈k3,u.oneCell'=true)∧(∀u∈k4,u.oneCell'=true))(r1 r2 r3 r4:Option Addr)(c1 c2 c3 c4:Nat)(a1:A[20]?=some (.slice r1 n1 c1))(a2:A[21]?=some (.slice r2 n2 c2))(a3:A[22]?=some (.slice r3 n3 c3))(a4:A[23]?=some (.slice r4 n4 c4))(hl:n1≤1000∧n2≤1000∧n3≤1000∧n4≤1000)(w:World)(ho:kC w oa os)(s1:gC w r1 n1 k1)(s2:gC w r2 n2 k2)(s3:gC w r3 n3 k3)(s4:gC w r4 n4 k4):Calls prog 49 #[.agg A] w (VV w A os n1 n2 n3 n4 k1 k2 k3 k4):=by
 obtain⟨i0,hi,fV,gF,gG⟩:=info_parts lC;go_enter func49,ntmps49;go_upto_region 1 with fail
 obtain⟨Z,hZ⟩:∃Z:Array Value,Z=#[Value.slice none 0 0,I 0,I 0,I 0,B false,I 0,B false,I 0,I 0,I 0,I 0,I 0,I 0,I 0,I 0,I 0,I 0,I 0,B false,I 0,Value.slice none 0 0,Value.slice none 0 0,Value.slice none 0 0,Value.slice none 0 0,I 0]:=⟨_,rfl⟩;obtain⟨bx,tl⟩:∃b,b=w.heap.size:=⟨_,rfl⟩;obtain⟨rs,vY⟩:∃b,b=w.heap.size+1:=⟨_,rfl⟩;obtain⟨W0,LI⟩:∃W,W=(w.alloc (.cells A 100)).alloc (.cells Z 100):=⟨_,rfl⟩;have UJ:Z.size=25:=by rw[hZ];rfl
 rw[←hZ,←vY,←tl,←LI]
 have C0:CG w W0 bx rs A Z:=by
  exact aY8
 have x0:=C0.cell a0;obtain⟨n,hn⟩:=dC (os.length);have Zc:n≤100:=by rw[hn];exact hI.1
 obtain⟨q,hq⟩:=dC (W0.heap.size);rw[←hn]at x0
 have tP:Hid (Calls prog 83 #[.slice (some ⟨q,0,none⟩) 1 1] (W0.alloc (.cells #[.slice oa n oc] 50)) fun e w'=>∃g cp Kd LJ,e=.returned (.slice (some ⟨g,0,none⟩) 1 cp)∧w'.cell? ⟨g,0,none⟩=some (.slice Kd n LJ)∧(∀W,lO (W0.alloc (.cells #[.slice oa n oc] 50)).heap.size w' W→kC W Kd os)∧Below (W0.alloc (.cells #[.slice oa n oc] 50)).heap.size (W0.alloc (.cells #[.slice oa n oc] 50)) w'):=by
  have jF:aH1 (W0.alloc (.cells #[.slice oa n oc] 50)) (some ⟨q,0,none⟩) [os]:=by
   exact aZ1
  refine(tQ [os] 1 rfl (some ⟨q,0,none⟩) 1 _ jF (BR hI)).mono ?_;rintro e w' ⟨g,cp,aV,cap,c,rfl,hC,h1,h2⟩;have ai9:=fun W (hK:lO (W0.alloc (.cells #[.slice oa n oc] 50)).heap.size w' W)=>hC.rd (i:=0) oX (by show os.length≤_;have:=hI.1;omega) (fun o ho=>by obtain⟨b1,b2,b3,b4,b5,b6⟩:=hI.2 o ho;exact⟨b1,b2,b3,b4,oX,b6⟩) (W:=W) hK
  have mj:nG (aV (some (.ops 0))) n (cap (some (.ops 0)))=.slice (UH (aV (some (.ops 0)))) n (if aV (some (.ops 0))=none then 0 else cap (some (.ops 0))):=by
   cases hb:aV (some (.ops 0)) with
   |none=>
    have:=hC.own.none_ _ hb;rw[hC.rows 0 oX]at this;have:=nu (f:=J6 aV cap 0) (k:=6) (fun _ _=>rfl) dX this;have:os=[]:=this;rw[hn,this];rfl
   |some b=>simp[nG,UH]
  refine⟨g,cp,UH (aV (some (.ops 0))),(if aV (some (.ops 0))=none then 0 else cap (some (.ops 0))),rfl,?_,ai9,hC.own.below⟩;rw[←mj];refine hC.own.cell (k:=none) h1 ?_;rw[hC.out,hn];rfl
 have HC0:=ag C0;obtain⟨HKK,HKO⟩:=dA kE hko;obtain⟨HS1,HS2,HS3,HS4⟩:=ia s1 s2 s3 s4;have HA:=ag (dO a0 (dO a1 (dO a2 (dO a3 a4))));obtain⟨xW,UK,HL,XF,Ke⟩:=jW hsz UJ hl Zb hn;have HLO:Hid (bx<W0.heap.size∧rs<W0.heap.size):=⟨(dh C0.box).1,(dh C0.res).1⟩;clear kE hko;clear C0 s1 s2 s3 s4 a0 a1 a2 a3 a4 hsz UJ hl Zb LI hZ tl vY ho hI hn;go_upto_region 2 with(go_at_call 83;rw[←hq];refine tP.out.mono ?_;rintro e W1 ⟨g,cp,Kd,LJ,rfl,y0,jF,hb⟩;have C1:=(HC0.out.alloc _).call hb;have xf0:=C1.frozen 0;have aj0:Hid (W0.heap.size≤W1.heap.size):=(by have:=hb.size;simp at this;show W0.heap.size≤W1.heap.size;omega);have x0':=C1.cell (j:=0) (v:=.slice oa n oc) (by rw[Ke.out];exact HA.out.1);obtain⟨Sz,CZ⟩:=dA C1 jF;clear C1 jF hb)
 obtain⟨v0,Rv⟩:=dC (Value.slice Kd n LJ);obtain⟨P0,SA⟩:∃P,Hid (P=W1.setCell ⟨bx,0,none⟩ (.slice Kd n LJ)):=⟨_,rfl⟩;have C0:=Sz.out.set 0 (.slice Kd n LJ);rw[←SA.out]at C0 ⊢;have e20:P0.cell? ⟨bx,20,none⟩=some (.slice r1 n1 c1):=C0.cell bw2;have Zd:=ag C0;clear C0 Rv y0 xf0 x0' x0;have aj1:Hid (n1≤1000):=HL.out.1;have aj2:=aj1.out;have Ap:=ag (Zd.out.Ib HS1);go_wp2_with (at_builtin;go_loud (refine gu rfl _ _ 28 rfl underlying28 hi fV gF gG rfl dX dX rfl r1 n1 c1 rfl k1 HKK.out.1 Ap HKO.out.1 oX ?_));intro b1 d1 w1 hg rj
 have aj3:Hid (∀b' off,b1=some ⟨b',off,none⟩→b'≠bx):=fun b' off e=>by
  have dD:=(dh Zd.out.box).1;exact aW7
 have hS:=gC.qE rj
 have pH:Hid (∀b' off,b1=some ⟨b',off,none⟩→P0.heap.size≤b'):=fun b' off e=>by
  exact aW7
 have aj4:Hid (Below P0.heap.size P0 w1):=(fp _ _).grown hg cG bj7;have hC:=Zd.out.grown hg;have z20:=hC.cell (j:=20) (v:=.slice r1 n1 c1) bw2;have aj5:=hC.frozen 20;have z21:=hC.cell (j:=21) (v:=.slice r2 n2 c2) (by rw[ur dX];exact HA.out.2.2.1);have aj6:=ag hC;have Ze:=ag hS;clear hC hS rj hg aj2 e20;go_upto_region 3 with fail
 obtain⟨P1,Nq⟩:∃P,Hid (P=w1.setCell ⟨bx,20,none⟩ (.slice b1 n1 d1)):=⟨_,rfl⟩;have C0:=aj6.out.set 20 (.slice b1 n1 d1);have Oq:=Ze.out.set (b:=bx) (j:=20) (.slice b1 n1 d1) aj3;rw[←Nq.out]at C0 Oq ⊢;have e21:P1.cell? ⟨bx,21,none⟩=some (.slice r2 n2 c2):=C0.cell (by rw[ur dX];rw[ur dX];exact HA.out.2.2.1);have Zf:=ag C0;have ay2:=ag Oq;clear C0 Oq z20 aj5 z21;have aj7:Hid (n2≤1000):=HL.out.2.1;have aj8:=aj7.out;have Ot:=ag (Zf.out.Ib HS2);go_wp2_with (at_builtin;go_loud (refine gu rfl _ _ 28 rfl underlying28 hi fV gF gG rfl dX dX rfl r2 n2 c2 rfl k2 HKK.out.2.1 Ot HKO.out.2.1 oX ?_));intro b2 d2 w2 hg rj
 have aj9:Hid (∀b' off,b2=some ⟨b',off,none⟩→b'≠bx):=fun b' off e=>by
  have dD:=(dh Zf.out.box).1;exact aW7
 have hS:=gC.qE rj
 have mq:Hid (∀b' off,b2=some ⟨b',off,none⟩→P1.heap.size≤b'):=fun b' off e=>by
  exact aW7
 have ak0:Hid (Below P1.heap.size P1 w2):=(fp _ _).grown hg cG bj7;have hC:=Zf.out.grown hg;have z21:=hC.cell (j:=21) (v:=.slice r2 n2 c2) (by rw[ur dX];rw[ur dX];exact HA.out.2.2.1);have ak1:=hC.frozen 21;have z22:=hC.cell (j:=22) (v:=.slice r3 n3 c3) (by rw[ur dX];rw[ur dX];exact HA.out.2.2.2.1);have ak2:=ag hC;have Zg:=ag hS;clear hC hS rj hg aj8 e21;go_upto_region 4 with fail
 obtain⟨P2,En⟩:∃P,Hid (P=w2.setCell ⟨bx,21,none⟩ (.slice b2 n2 d2)):=⟨_,rfl⟩;have C0:=ak2.out.set 21 (.slice b2 n2 d2);have Oq:=Zg.out.set (b:=bx) (j:=21) (.slice b2 n2 d2) aj9;rw[←En.out]at C0 Oq ⊢;have e22:P2.cell? ⟨bx,22,none⟩=some (.slice r3 n3 c3):=C0.cell bw5;have VD:=ag C0;have ay3:=ag Oq;clear C0 Oq z21 ak1 z22;have ak3:Hid (n3≤1000):=HL.out.2.2.1;have ak4:=ak3.out;have Ou:=ag (VD.out.Ib HS3);go_wp2_with (at_builtin;go_loud (refine gu rfl _ _ 28 rfl underlying28 hi fV gF gG rfl dX dX rfl r3 n3 c3 rfl k3 HKK.out.2.2.1 Ou HKO.out.2.2.1 oX ?_));intro b3 d3 w3 hg rj
 have ak5:Hid (∀b' off,b3=some ⟨b',off,none⟩→b'≠bx):=fun b' off e=>by
  have dD:=(dh VD.out.box).1;exact aW7
 have hS:=gC.qE rj
 have tK:Hid (∀b' off,b3=some ⟨b',off,none⟩→P2.heap.size≤b'):=fun b' off e=>by
  exact aW7
 have ak6:Hid (Below P2.heap.size P2 w3):=(fp _ _).grown hg cG bj7;have hC:=VD.out.grown hg;have z22:=hC.cell (j:=22) (v:=.slice r3 n3 c3) bw5;have ak7:=hC.frozen 22;have z23:=hC.cell (j:=23) (v:=.slice r4 n4 c4) (by rw[ur dX];rw[ur dX];rw[ur dX];exact HA.out.2.2.2.2);have ak8:=ag hC;have Zh:=ag hS;clear hC hS rj hg ak4 e22;go_upto_region 5 with fail
 obtain⟨P3,Eo⟩:∃P,Hid (P=w3.setCell ⟨bx,22,none⟩ (.slice b3 n3 d3)):=⟨_,rfl⟩;have C0:=ak8.out.set 22 (.slice b3 n3 d3);have Oq:=Zh.out.set (b:=bx) (j:=22) (.slice b3 n3 d3) ak5;rw[←Eo.out]at C0 Oq ⊢;have e23:P3.cell? ⟨bx,23,none⟩=some (.slice r4 n4 c4):=C0.cell bw1;have HK3:=ag C0;have ay4:=ag Oq;clear C0 Oq z22 ak7 z23;have ak9:Hid (n4≤1000):=HL.out.2.2.2;have al0:=ak9.out;have SB:=ag (HK3.out.Ib HS4);go_wp2_with (at_builtin;go_loud (refine gu rfl _ _ 28 rfl underlying28 hi fV gF gG rfl dX dX rfl r4 n4 c4 rfl k4 HKK.out.2.2.2 SB HKO.out.2.2.2 oX ?_));intro b4 d4 w4 hg rj
 have ay5:Hid (∀b' off,b4=some ⟨b',off,none⟩→b'≠bx):=fun b' off e=>by
  have dD:=(dh HK3.out.box).1;exact aW7
 have hS:=gC.qE rj
 have HB4:Hid (∀b' off,b4=some ⟨b',off,none⟩→P3.heap.size≤b'):=fun b' off e=>by
  exact aW7
 have al1:Hid (Below P3.heap.size P3 w4):=(fp _ _).grown hg cG bj7;have hC:=HK3.out.grown hg;have z23:=hC.cell (j:=23) (v:=.slice r4 n4 c4) bw1;have al2:=hC.frozen 23;have al3:=ag hC;have al4:=ag hS;clear hC hS rj hg al0 e23;go_upto_region 6 with fail
 obtain⟨P4,G6⟩:∃P,Hid (P=w4.setCell ⟨bx,23,none⟩ (.slice b4 n4 d4)):=⟨_,rfl⟩;have C0:=al3.out.set 23 (.slice b4 n4 d4);rw[←G6.out]at C0 ⊢;have Ov:=ag C0;clear C0 al2 z23;refine wp_region_lit ?_;refine wpList_load_mid rfl 100 (.tmp 1) rfl bx 0 rfl (qh A (Value.slice Kd n LJ) (.slice b1 n1 d1) (.slice b2 n2 d2) (.slice b3 n3 d3) (.slice b4 n4 d4)) (fun j v hv=>by rw[Nat.zero_add];exact Ov.out.cell hv) mC br3 ?_
 refine cB rfl 100 (.tmp 2) (.tmp 26) rfl rs 0 (qh A (Value.slice Kd n LJ) (.slice b1 n1 d1) (.slice b2 n2 d2) (.slice b3 n3 d3) (.slice b4 n4 d4)) rfl rfl br3 (fun j hj=>by
   rw[cr _ _ _ _ _ _ Ov.out.res];have:j<25:=by simpa[qh,xW.out]using hj
   rw[Nat.zero_add,xL (by rw[UK.out];exact this)];rfl) (fun j hj=>iM _ _ _ _ _ Ov.out.res) (mR (mR (mR (mR (mR XF rfl) rfl) rfl) rfl) rfl) ?_
 go_wp2;have hsz:(qh A (Value.slice Kd n LJ) (.slice b1 n1 d1) (.slice b2 n2 d2) (.slice b3 n3 d3) (.slice b4 n4 d4)).size=25:=by simp[qh,xW.out]
 have iw:=dI (cs:=qh A (Value.slice Kd n LJ) (.slice b1 n1 d1) (.slice b2 n2 d2) (.slice b3 n3 d3) (.slice b4 n4 d4)) Ov.out.res (by rw[hsz];exact UK);refine bodyPost_ret (lN rfl _ _ rs _ 100 (0,0) mC (by rw[fE,hsz]) rfl iw) rfl ?_;have ja:=HLO.out;have k0:iR W0.heap.size W1 P0:=by rw[SA.out];exact iR.set ja.1
 have k1:iR W0.heap.size P0 w1:=iR.below aj4;have k2:iR W0.heap.size w1 P1:=by rw[Nq.out];exact iR.set ja.1
 have k3:iR W0.heap.size P1 w2:=iR.below ak0;have k4:iR W0.heap.size w2 P2:=by rw[En.out];exact iR.set ja.1
 have k5:iR W0.heap.size P2 w3:=iR.below ak6;have k6:iR W0.heap.size w3 P3:=by rw[Eo.out];exact iR.set ja.1
 have k7:iR W0.heap.size P3 w4:=iR.below al1;have k8:iR W0.heap.size w4 P4:=by rw[G6.out];exact iR.set ja.1
 have k9:iR W0.heap.size P4 (P4.setCells rs 0 (qh A (Value.slice Kd n LJ) (.slice b1 n1 d1) (.slice b2 n2 d2) (.slice b3 n3 d3) (.slice b4 n4 d4)).toList):=iR.Za ja.2 _ _ _;have q4:=k8.trans k9;have q3:=(k6.trans k7).trans q4;have q2:=(k4.trans k5).trans q3;have q1:=(k2.trans k3).trans q2;have q0:=(k0.trans k1).trans q1;have z1:=aj0.out;rw[Ke.out];rw[Ke.out]at q0 q1 q2 q3 q4;have Ow:w.heap.size≤W0.heap.size:=HC0.out.below.size;refine⟨Kd,LJ,b1,d1,b2,d2,b3,d3,b4,d4,rfl,fun W hK=>?_,Below.setCells Ov.out.le.2.1 _ _ _ Ov.out.below⟩;have p0:=q0.nz hK Ow;have p1:=q1.nz hK Ow;have p2:=q2.nz hK Ow;have p3:=q3.nz hK Ow;have p4:=q4.nz hK Ow;refine⟨CZ _ (fun b h1 h2=>p0 b (by simp at h1;omega) h2),Ze.out.nz p1 (fun b off e=>?_),Zg.out.nz p2 (fun b off e=>?_),Zh.out.nz p3 (fun b off e=>?_),al4.out.nz p4 (fun b off e=>?_)⟩
 ·have:=pH.out b off e;have:=k0.1;omega
 ·have:=mq.out b off e;have:=k0.1;have:=k1.1;have:=k2.1;omega
 ·have:=tK.out b off e;have:=k0.1;have:=k1.1;have:=k2.1;have:=k3.1;have:=k4.1;omega
 ·have:=HB4.out b off e;have:=k0.1;have:=k1.1;have:=k2.1;have:=k3.1;have:=k4.1;have:=k5.1;have:=k6.1;omega
section
variable{af:Nat}{F:Fx}{w w0:World}{m m0:Mem}{S:Wd}
theorem Zi:(prog.info? 2).map (fun i=>(i.zero,i.size,i.bytes))=some (some (I 0),1,8):=kX
def qi(r:Ring)(n:Nat):List Value:=(List.range n).map fun(i:Nat)=>I (r.places.getD (r.at_ i) 0)
theorem Ox(R:bz af F w m S){i rb:Nat}{r:Ring}(h:S.au[i]?=some r)(fA:m.aV (.eU i)=some rb)(ok:r.Ok):Calls prog 54 #[.pointer (some ⟨rb,0,none⟩)] w fun e w'=>∃a c,e=.returned (.slice a r.count.toNat c)∧gC w' a r.count.toNat (qi r r.count.toNat)∧Below w.heap.size w w'∧∀b off,a=some ⟨b,off,none⟩→w.heap.size≤b∧b<w'.heap.size:=by
 obtain⟨i0,hi,fV,gF,gG⟩:=info_parts Zi;obtain⟨n,hn⟩:∃n:Nat,r.count=n:=⟨r.count.toNat,by have:=ok.c0;omega⟩;have Zj:n≤64:=by have:=ok.c1;have:=ok.len;omega
 have Fb:n≤r.places.length:=by have:=ok.c1;omega
 have sN:∀W:World,(Instr.makeSlice 57 (I 0) (I n)).run prog W=.ok (.slice (some ⟨W.heap.size,0,none⟩) 0 n) (W.alloc (.cells (madeCells (I 0).cells (n*i0.size)) 2)):=fun W=>av9 (P:=prog) 57 2 i0 _ underlying57 hi fV .i64 .i64 0 n (Nat.zero_le _) bk6 oX W
 rw[gF]at sN;rw[hn];simp only[oU];obtain⟨Hw,gr,pa,pc,hh,q0,q1,q2,q3⟩:=R.eU h;rw[fA]at gr;cases gr;rw[hn]at q2;have lt1:=R.lt fA;obtain⟨np,Io⟩:=dC (r.places.length);rw[←Io]at q0 Fb;have aw5:np≤64:=by rw[Io];exact ok.len
 obtain⟨HR,HH,uv,lP,HP,Ep⟩:=mr R h fA ok q3 Io;have jf:Hid ((w.alloc (.cells (madeCells #[I 0] n) 2)).ownsRow w.heap.size 2 1 (.slice (some ⟨w.heap.size,0,none⟩) 0 n) 0 (qi r 0)∧Below w.heap.size w (w.alloc (.cells (madeCells #[I 0] n) 2))):=by refine⟨⟨rfl,.inr ⟨w.heap.size,n,_,rfl,Nat.le_refl _,dP _ _,Nat.zero_le _,bj4,by simp[size_madeCells],by simp[qi]⟩⟩,(fp _ _).alloc cG _⟩
 have HQ:Hid (∀W,Below w.heap.size w W→W.cell? ⟨rb,0,none⟩=some (.slice pa np pc)∧W.cell? ⟨rb,2,none⟩=some (I n)):=fun W hb=>⟨cw hb cG _ _ q0,cw hb cG _ _ q2⟩
 clear R h fA ok hh q1 q3 hn Io q0;go_enter func54,ntmps54;go_wp2;clear sN q2;go_loopw [3,14] (fun out i wr=>∃(j g cp:Nat),out=.slice (some ⟨g,0,none⟩) j cp∧i=.int .i64 j∧j≤n∧Hid (wr.ownsRow w.heap.size 2 1 (.slice (some ⟨g,0,none⟩) j cp) j (qi r j)∧Below w.heap.size w wr)) (fun _ i _=>n-(intOf i).toNat)
 case atStart=>exact⟨0,w.heap.size,n,rfl,rfl,oX,jf⟩
 case round=>
  clear jf;obtain⟨j,g,cp,rfl,rfl,hj,HW⟩:=hrel;by_cases dD:j<n
  ·obtain⟨at_,ks⟩:∃a,a=r.at_ j:=⟨_,rfl⟩;have VW:at_<np:=by rw[ks,Ep.out];unfold Ring.at_;have hpos:(0:Int)<r.places.length:=(by have:=Ep.out;omega);have h1:=Int.emod_nonneg (r.first+(j:Int)) (b:=(r.places.length:Int)) oX;have h2:=Int.emod_lt_of_pos (r.first+(j:Int)) hpos;omega
   obtain⟨y,hy⟩:∃y,r.places[at_]?=some y:=⟨_,fv (by rw[←Ep.out];exact VW)⟩;obtain⟨pb,CJ,rfl,hpr,Nh⟩:=HP.out (by intro e;rw[e]at hy;simp at hy);have HB:=HW.out.2;have UL:=HR.out.below HB;obtain⟨d0,d2⟩:=HQ.out wr HB;have dy:wr.cell? ⟨pb,at_,none⟩=some (I y):=cw HB cG _ _ (Nh at_ y hy);have UA:Hid (∀W,W.heap=wr.heap→Calls prog 87 #[.pointer (some ⟨rb,0,none⟩),I j] W fun e w'=>e=.returned (I at_)∧∃n,w'=W.drewN n):=fun W hW=>by rw[ks];exact xR (UL.heap (fun _ b _=>by rw[hW])) HH uv lP j oX (by have:=Ep.out;omega)
   have qq:w.heap.size≤wr.heap.size:=HB.size;have nv:=ag HW.out.1;have HY:=ag (dO hy ks);have Np:=ag (fun(ops:Array Oper) (o:Oper) (ac:Act) (K:Act→World→Prop) (Q:Exit→Act→World→Prop) (E:Prop) (W3:World)=>jN (P:=prog) (ops:=ops) (o:=o) (a:=ac) (K:=K) (Q:=Q) (E:=E) (s:=.tmp 17) (x:=.tmp 27) (t:=57) (ht:=underlying57) (hi:=hi) (hz:=fV) (hsize:=gF) (hby:=gG) (hzs:=rfl) (hsz:=Nat.one_pos) (hbb:=vJ) (w2:=wr) (W3:=W3) (us:=#[I y]) (hus:=rfl) (h1:=aI8 y) (v:=.slice (some ⟨g,0,none⟩) j cp) (n:=j) (xs:=qi r j) (hown:=nv.out) (hn:=oX) (hbase:=qq))
   have hgw:w.heap.size≤g:=by
    rcases nv.out.2 with⟨h1,_⟩|⟨g',_,_,h1,h2,_⟩
    ·cases h1
    ·exact bg9
   have al5:pb<w.heap.size:=HR.out.lt CJ
   have HKP:Hid (∀W3 w3:World,W3.heap=(wr.alloc (.cells #[I y] 2)).heap→W3.grownBy w3 (some g)→(w3.cell? ⟨rb,0,none⟩=some (.slice (some ⟨pb,0,none⟩) np pc)∧w3.cell? ⟨pb,at_,none⟩=some (I y))∧(W3.os=wr.os→W3.tape=wr.tape→W3.output=wr.output→Below w.heap.size w w3)):=fun W3 w3 hW hg=>by
    have hs:W3.heap.size=wr.heap.size+1:=(by rw[hW];simp);have key:∀b,b<w.heap.size→w3.heap[b]?=wr.heap[b]?:=fun b hb=>by rw[hg.block b oX bi8,hW];exact gf _ _ _ oX
    refine⟨⟨?_,?_⟩,fun o1 o2 o3=>⟨hg.os.trans (o1.trans HB.os),hg.tape.trans (o2.trans HB.tape),hg.output.trans (o3.trans HB.output),by have:=hg.size;have:=HB.size;omega,fun b hb=>(key b hb).trans (HB.block b hb)⟩⟩
    ·rw[kZ (w:=wr) (key rb lt1)];exact d0
    ·rw[kZ (w:=wr) (key pb al5)];exact dy
   clear Nh CJ hpr ks hy UL HB;go_upto_region 5 with fail
   go_region_held3 (fun W=>W.cell? ⟨rb,0,none⟩=some (.slice (some ⟨pb,0,none⟩) np pc)∧W.cell? ⟨pb,at_,none⟩=some (I y)) (first|exact⟨d0,dy⟩|exact⟨‹_›,‹_›⟩|go_keep)
    (first
     |(go_at_call 87;refine(UA _ ?_).mono ?_;rfl;rintro e w2 ⟨rfl,kk,rfl⟩)
     |(refine Np _ _ _ _ _ _ _ rfl rfl rfl rfl rfl ?_;intro g2 On w3 ah8 hgr gp;have hkp:=HKP.out _ _ bn8 hgr;obtain⟨⟨d0,dy⟩,Hl⟩:=hkp))
   have HN:Hid (w3.ownsRow w.heap.size 2 1 (.slice (some ⟨g2,0,none⟩) (j+1) On) (j+1) (qi r (j+1))∧Below w.heap.size w w3):=(by refine⟨?_,Hl rfl rfl rfl⟩;have e:qi r (j+1)=qi r j++[I y]:=(by unfold qi;rw[List.range_succ,List.map_append,List.map_cons,List.map_nil,←HY.out.2,yk,HY.out.1];rfl);rw[e];exact ah8);clear HW nv ah8 hgr gp Hl Np HKP UA d0 dy d2;go_wp2;go_roundw
   case rel=>exact⟨j+1,g2,On,sX,bl2,oX,HN⟩
   case measure=>simp[intOf];omega
  ·obtain rfl:j=n:=by omega
   go_wp2;go_ret;exact⟨_,_,rfl,gC.tO HW.out.1,HW.out.2,lJ HW.out.1⟩
end
def xI(w w':World)(a b c:Nat):Prop:=w.heap.size≤w'.heap.size∧∀k,k<w.heap.size→k≠a→k≠b→k≠c→w'.heap[k]?=w.heap[k]?
theorem xI.refl(w:World)(a b c:Nat):xI w w a b c:=⟨Nat.le_refl _,fun _ _ _ _ _=>rfl⟩
theorem xI.trans{w w1 w2:World}{a b c:Nat}(h:xI w w1 a b c)(k:xI w1 w2 a b c):xI w w2 a b c:=
 ⟨jm h.1 k.1,fun i h1 h2 h3 h4=>(k.2 i (uB h1 h.1) h2 h3 h4).trans (h.2 i h1 h2 h3 h4)⟩
theorem xI.below{w w':World}{a b c:Nat}(h:Below w.heap.size w w'):xI w w' a b c:=⟨h.size,fun k hk _ _ _=>h.block k hk⟩
theorem xI.set{w:World}{a b c k j:Nat}{v:Value}(h:k=a∨k=b∨k=c):xI w (w.setCell ⟨k,j,none⟩ v) a b c:=
 ⟨bp1,fun i h1 h2 h3 h4=>fQ _ _ _ _ bi8⟩
theorem xI.grown{w w':World}{a b c:Nat}{r:Option Nat}(h:w.grownBy w' r)(hr:∀k,r=some k→k=a∨k=b∨k=c):xI w w' a b c:=
 ⟨h.size,fun i h1 h2 h3 h4=>h.block i h1 (fun e=>by have:=hr i e.symm;omega)⟩
inductive SK|box|gs|cache|nA
 deriving DecidableEq
def tyS:SK→Option (Nat×Nat)| .box=>some (41,12)| .gs=>some (100,25)| .cache=>some (28,1)| .nA=>some (59,6)
def Oy(S:Wd)(g h v5 c v7 v9 v11:Value):List Value:=[I S.dV,I S.eT,I S.av,g,h,v5,c,v7,I S.Eg.cO,v9,I S.drawn,v11]
def VX(lo:Nat)(wr:World)(aV:SK→Option Nat)(P:World→Prop):Prop:=∀W:World,(∀b,lo≤b→b<wr.heap.size→(∀k,aV k≠some b)→W.heap[b]?=wr.heap[b]?)→P W
structure StO(w wr:World)(S:Wd)(bx:Nat)(v5 v7 v9 v11:Value)(i q k:Nat)(g c h:Value)(cg cc ch:List Value)(P:World→Prop)(aV:SK→Option Nat)(cap:SK→Nat)(ct:SK→List Value):Prop where
 own:cN w.heap.size w wr aV tyS cap ct
 box:aV .box=some bx
 SC:cap .box=1
 Zk:ct .box=Oy S g h v5 c v7 v9 v11
 hg:g=nG (aV .gs) i (cap .gs)
 Zl:ct .gs=cg
 hc:c=nG (aV .cache) q (cap .cache)
 mP:ct .cache=cc
 hh:h=nG (aV .nA) k (cap .nA)
 bO:ct .nA=ch
 off:VX w.heap.size wr aV P
def mw(w wr:World)(S:Wd)(bx:Nat)(v5 v7 v9 v11:Value)(i q k:Nat)(g c h:Value)(cg cc ch:List Value)(P:World→Prop):Prop:=∃aV cap ct,StO w wr S bx v5 v7 v9 v11 i q k g c h cg cc ch P aV cap ct
section
variable{w wr w':World}{S:Wd}{bx i q k:Nat}{v5 v7 v9 v11 g c h:Value}{cg cc ch:List Value}{P:World→Prop}
section
variable(H:mw w wr S bx v5 v7 v9 v11 i q k g c h cg cc ch P)
include H
theorem mw.more(hb:Below wr.heap.size wr w'){Q:World→Prop}(hQ:∀W,lO wr.heap.size w' W→P W→Q W):mw w w' S bx v5 v7 v9 v11 i q k g c h cg cc ch Q:=by
 obtain⟨aV,cap,ct,H⟩:=H;refine⟨aV,cap,ct,H.own.eC hb,H.box,H.SC,H.Zk,H.hg,H.Zl,H.hc,H.mP,H.hh,H.bO,fun W hW=>hQ W (fun b h1 h2=>hW b (jm H.own.tL h1) h2 fun k e=>by have:=H.own.lt e;omega) (H.off W fun b h1 h2 h3=>?_)⟩;rw[hW b h1 (uB h2 hb.size) h3];exact hb.block b h2
theorem mw.eC(hb:Below wr.heap.size wr w'):mw w w' S bx v5 v7 v9 v11 i q k g c h cg cc ch P:=H.more hb fun _ _ h=>h
theorem mw.imp{Q:World→Prop}(hQ:∀W,P W→Q W):mw w wr S bx v5 v7 v9 v11 i q k g c h cg cc ch Q:=H.more (fp _ _) fun W _ h=>hQ W h
end
theorem mw.drew(H:mw w wr S bx v5 v7 v9 v11 i q k g c h cg cc ch P):mw w wr.drew S bx v5 v7 v9 v11 i q k g c h cg cc ch P:=H.eC (fp _ _).drew
theorem mw.alloc(H:mw w wr S bx v5 v7 v9 v11 i q k g c h cg cc ch P)(o:Obj):mw w (wr.alloc o) S bx v5 v7 v9 v11 i q k g c h cg cc ch P:=H.eC ((fp _ _).alloc cG o)
theorem mw.lo(H:mw w wr S bx v5 v7 v9 v11 i q k g c h cg cc ch P):Below w.heap.size w wr∧w.heap.size≤wr.heap.size:=by
 obtain⟨aV,cap,ct,H⟩:=H;exact⟨H.own.below,H.own.tL⟩
theorem mw.cell(H:mw w wr S bx v5 v7 v9 v11 i q k g c h cg cc ch P)(j:Nat)(v:Value)(hv:(Oy S g h v5 c v7 v9 v11)[j]?=some v):wr.cell? ⟨bx,j,none⟩=some v:=by
 obtain⟨aV,cap,ct,H⟩:=H;exact H.own.cell H.box (by rw[H.Zk];exact hv)
theorem mw.frozen(H:mw w wr S bx v5 v7 v9 v11 i q k g c h cg cc ch P)(j:Nat):wr.frozen? ⟨bx,j,none⟩=false:=by
 obtain⟨aV,cap,ct,H⟩:=H;exact H.own.frozen H.box j
section
variable(H:mw w wr S bx v5 v7 v9 v11 i q k g c h cg cc ch P)
include H
theorem mw.VY:bx<wr.heap.size:=by
 obtain⟨aV,cap,ct,H⟩:=H;exact H.own.lt H.box
theorem mw.Zm(hl:cg.length=i*25):wr.ownsRow w.heap.size 100 25 g i cg:=by
 obtain⟨aV,cap,ct,H⟩:=H;have:=H.own.owns (k:=.gs) (p:=(100,25)) rfl dX (n:=i) (by rw[H.Zl];exact hl);rw[←H.hg,H.Zl]at this;exact this
theorem mw.Zn(hl:cc.length=q):wr.ownsRow w.heap.size 28 1 c q cc:=by
 obtain⟨aV,cap,ct,H⟩:=H;have:=H.own.owns (k:=.cache) (p:=(28,1)) rfl dX (n:=q) (by rw[H.mP,hl,Nat.mul_one]);rw[←H.hc,H.mP]at this;exact this
theorem mw.Zo(hl:ch.length=k*6):wr.ownsRow w.heap.size 59 6 h k ch:=by
 obtain⟨aV,cap,ct,H⟩:=H;have:=H.own.owns (k:=.nA) (p:=(59,6)) rfl dX (n:=k) (by rw[H.bO];exact hl);rw[←H.hh,H.bO]at this;exact this
end
section
variable{lo:Nat}{aV:SK→Option Nat}{r:SK}
theorem VX.row{g:Nat}(h:VX lo wr aV P)(hg:wr.grownBy w' (aV r))(gp:aV r=some g∨wr.heap.size≤g):VX lo w' (up aV r (some g)) P:=fun W hW=>h W fun b h1 h2 h3=>by
 have yp:b≠g:=fun e=>by
  subst e;rcases gp with h4|h4
  ·exact h3 r h4
  ·omega
 rw[hW b h1 (uB h2 hg.size) (fun k e=>by
  by_cases hk:k=r
  ·subst hk;rw[bq]at e;cases e;exact yp rfl
  ·rw[aD _ _ hk]at e;exact h3 k e)]
 exact hg.block b h2 (fun e=>h3 r e.symm)
theorem VX.set{b j:Nat}{v:Value}(h:VX lo wr aV P)(hb:aV r=some b):VX lo (wr.setCell ⟨b,j,none⟩ v) aV P:=fun W hW=>h W fun b' h1 h2 h3=>by
 rw[hW b' h1 (by simpa[World.setCell]using h2) h3];exact fQ _ _ _ _ (fun e=>h3 r (by rw[e]at*;exact hb))
end
section
variable(H:mw w wr S bx v5 v7 v9 v11 i q k g c h cg cc ch P)
include H
theorem mw.Oz{lg cp n:Nat}{xs:List Value}(hg:wr.grownBy w' g.ownBlock)(hown:w'.ownsRow w.heap.size 100 25 (.slice (some ⟨lg,0,none⟩) n cp) n xs)(gp:g.ownBlock=some lg∨wr.heap.size≤lg):mw w (w'.setCell ⟨bx,3,none⟩ (.slice (some ⟨lg,0,none⟩) n cp)) S bx v5 v7 v9 v11 n q k (.slice (some ⟨lg,0,none⟩) n cp) c h xs cc ch P:=by
 obtain⟨aV,cap,ct,H⟩:=H;have ho:g.ownBlock=aV .gs:=by rw[H.hg];exact gV _ _ _
 rw[ho]at hg gp;have O:=H.own.row (r:=.gs) (p:=(100,25)) (fun q h=>bq4) hg hown gp;have hb:up aV .gs (some lg) .box=some bx:=bw7
 refine⟨_,_,_,O.set (r:=.box) (j:=3) (v:=.slice (some ⟨lg,0,none⟩) n cp) hb,hb,by rw[aD _ _ dX];exact H.SC,?_,?_,?_,?_,?_,?_,?_,(H.off.row hg gp).set hb⟩
 ·rw[bq,aD _ _ dX,H.Zk];rfl
 ·rw[bq,bq];rfl
 ·rw[aD _ _ dX,bq]
 ·rw[aD _ _ dX,aD _ _ dX];exact H.hc
 ·rw[aD _ _ dX,aD _ _ dX];exact H.mP
 ·rw[aD _ _ dX,aD _ _ dX];exact H.hh
 ·rw[aD _ _ dX,aD _ _ dX];exact H.bO
theorem mw.OA{lg cp n:Nat}{xs:List Value}(hg:wr.grownBy w' c.ownBlock)(hown:w'.ownsRow w.heap.size 28 1 (.slice (some ⟨lg,0,none⟩) n cp) n xs)(gp:c.ownBlock=some lg∨wr.heap.size≤lg):mw w (w'.setCell ⟨bx,6,none⟩ (.slice (some ⟨lg,0,none⟩) n cp)) S bx v5 v7 v9 v11 i n k g (.slice (some ⟨lg,0,none⟩) n cp) h cg xs ch P:=by
 obtain⟨aV,cap,ct,H⟩:=H;have ho:c.ownBlock=aV .cache:=by rw[H.hc];exact gV _ _ _
 rw[ho]at hg gp;have O:=H.own.row (r:=.cache) (p:=(28,1)) (fun q h=>bq4) hg hown gp;have hb:up aV .cache (some lg) .box=some bx:=bw7
 refine⟨_,_,_,O.set (r:=.box) (j:=6) (v:=.slice (some ⟨lg,0,none⟩) n cp) hb,hb,by rw[aD _ _ dX];exact H.SC,?_,?_,?_,?_,?_,?_,?_,(H.off.row hg gp).set hb⟩
 ·rw[bq,aD _ _ dX,H.Zk];rfl
 ·rw[aD _ _ dX,aD _ _ dX];exact H.hg
 ·rw[aD _ _ dX,aD _ _ dX];exact H.Zl
 ·rw[bq,bq];rfl
 ·rw[aD _ _ dX,bq]
 ·rw[aD _ _ dX,aD _ _ dX];exact H.hh
 ·rw[aD _ _ dX,aD _ _ dX];exact H.bO
theorem mw.OB{lg cp n:Nat}{xs:List Value}(hg:wr.grownBy w' h.ownBlock)(hown:w'.ownsRow w.heap.size 59 6 (.slice (some ⟨lg,0,none⟩) n cp) n xs)(gp:h.ownBlock=some lg∨wr.heap.size≤lg):mw w (w'.setCell ⟨bx,4,none⟩ (.slice (some ⟨lg,0,none⟩) n cp)) S bx v5 v7 v9 v11 i q n g c (.slice (some ⟨lg,0,none⟩) n cp) cg cc xs P:=by
 obtain⟨aV,cap,ct,H⟩:=H;have ho:h.ownBlock=aV .nA:=by rw[H.hh];exact gV _ _ _
 rw[ho]at hg gp;have O:=H.own.row (r:=.nA) (p:=(59,6)) (fun q h=>bq4) hg hown gp;have hb:up aV .nA (some lg) .box=some bx:=bw7
 refine⟨_,_,_,O.set (r:=.box) (j:=4) (v:=.slice (some ⟨lg,0,none⟩) n cp) hb,hb,by rw[aD _ _ dX];exact H.SC,?_,?_,?_,?_,?_,?_,?_,(H.off.row hg gp).set hb⟩
 ·rw[bq,aD _ _ dX,H.Zk];rfl
 ·rw[aD _ _ dX,aD _ _ dX];exact H.hg
 ·rw[aD _ _ dX,aD _ _ dX];exact H.Zl
 ·rw[aD _ _ dX,aD _ _ dX];exact H.hc
 ·rw[aD _ _ dX,aD _ _ dX];exact H.mP
 ·rw[bq,bq];rfl
 ·rw[aD _ _ dX,bq]
theorem mw.al6(hg:wr.grownBy w' g.ownBlock):w'.heap[bx]?=wr.heap[bx]?:=by
 obtain⟨aV,cap,ct,H⟩:=H;refine hg.block bx (H.own.lt H.box) fun e=>?_
 rw[H.hg,gV]at e;exact be5
theorem mw.al7(hg:wr.grownBy w' c.ownBlock):w'.heap[bx]?=wr.heap[bx]?:=by
 obtain⟨aV,cap,ct,H⟩:=H;refine hg.block bx (H.own.lt H.box) fun e=>?_
 rw[H.hc,gV]at e;exact be5
theorem mw.al8(hg:wr.grownBy w' h.ownBlock):w'.heap[bx]?=wr.heap[bx]?:=by
 obtain⟨aV,cap,ct,H⟩:=H;refine hg.block bx (H.own.lt H.box) fun e=>?_
 rw[H.hh,gV]at e;exact be5
theorem mw.Zp{b:Nat}(hb:h.ownBlock=some b):w.heap.size≤b:=by
 obtain⟨aV,cap,ct,H⟩:=H;rw[H.hh,gV]at hb;exact(H.own.lies _ _ hb).1
end
theorem yO{n:Nat}:∀(As:List (List Value)),(∀A∈As,A.length=n)→As.flatten.length=As.length*n
 | [],_=>sX
 |A::As,h=>by rw[List.flatten_cons,py,yO As (fun B hB=>h B (nO _ hB)),h A (rn),sV,Nat.add_mul,Nat.one_mul,Nat.add_comm]
end
def yP(x:bI)(st:Int)(tk:Bool)(v0 v1 v2 v3 v4:Value):List Value:=
 [v0,I x.at_,I x.ae,I st,B tk,I x.call,B x.bk,I x.aN,I x.bY,I x.br,I x.t,I x.bJ,I x.point,I x.bF,I x.fire]++ru x.res++[v1,v2,v3,v4,I x.k]
def Zq(x:bI)(st:Int)(tk:Bool)(A:List Value)(W:World):Prop:=
 ∃oa oc b1 d1 b2 d2 b3 d3 b4 d4,A=yP x st tk (.slice oa x.ops.length oc) (.slice b1 x.aH.length d1) (.slice b2 x.aq.length d2) (.slice b3 x.bA.length d3) (.slice b4 x.wakes.length d4)∧
  kC W oa x.ops∧gC W b1 x.aH.length (x.aH.map I)∧gC W b2 x.aq.length (x.aq.map I)∧gC W b3 x.bA.length (x.bA.map I)∧gC W b4 x.wakes.length (x.wakes.map I)
def HRd(S:Wd)(ls:List (List Nat))(k:Nat)(r:Ring)(D:List Value)(W:World):Prop:=
 ∃ba bc cl ra rc sa sc,D=[I r.places.length,.slice ba r.count.toNat bc,B cl,I (owner S.aq k),.slice ra (ls.getD (2*k) []).length rc,.slice sa (ls.getD (2*k+1) []).length sc]∧S.aO[k]?=some cl∧
  gC W ba r.count.toNat (qi r r.count.toNat)∧gC W ra (ls.getD (2*k) []).length (uU (ls.getD (2*k) []))∧gC W sa (ls.getD (2*k+1) []).length (uU (ls.getD (2*k+1) []))
structure yQ(S:Wd)(ls:List (List Nat))(sa ma da xa:Option Addr)(As:List (List Value))(Vs:List Value)(Ds:List (List Value))(W:World):Prop where
 Rw:gC W sa S.ah.length (bT mg 0 S.ah)
 mid:gC W ma S.Eg.aK.length (S.Eg.aK.map I)
 draws:gC W da S.draws.length (S.draws.map U)
 done:gC W xa S.done.length (bT ib 0 S.done)
 gs:∀(j:Nat) x A,S.gs[j]?=some x→As[j]?=some A→Zq x (bU S.ax j) (token S.ax j) A W
 aC:∀(j:Nat) x v,S.Eg.aC[j]?=some x→Vs[j]?=some v→∃a cp,v=.slice a x.length cp∧gC W a x.length (x.map I)
 nA:∀(k:Nat) r D,S.au[k]?=some r→Ds[k]?=some D→HRd S ls k r D W
section
variable{S:Wd}{ls:List (List Nat)}{sa ma da xa:Option Addr}{As:List (List Value)}{Vs:List Value}{Ds:List (List Value)}{W:World}
theorem yR{α:Type}{l:List α}{a b:α}{j:Nat}(h:(l++[a])[j]?=some b):l[j]?=some b∨j=l.length∧b=a:=by
 rw[List.getElem?_append]at h;split at h
 ·exact .inl h
 ·have hj:j-l.length=0:=by
   rcases Nat.eq_zero_or_pos (j-l.length)with h1|h1
   ·exact h1
   ·rw[rq bi8]at h;cases h
  rw[hj]at h;simp at h;exact .inr ⟨oX,h.symm⟩
section
variable(H:yQ S ls sa ma da xa As Vs Ds W)
include H
theorem yQ.Oz{x:bI}{A:List Value}(hx:S.gs[As.length]?=some x)(hA:Zq x (bU S.ax As.length) (token S.ax As.length) A W):yQ S ls sa ma da xa (As++[A]) Vs Ds W:=
 ⟨H.Rw,H.mid,H.draws,H.done,fun j y B hy hB=>by
  rcases yR hB with h|⟨rfl,rfl⟩
  ·exact H.gs j y B hy h
  ·rw[hx]at hy;cases hy;exact hA,H.aC,H.nA⟩
theorem yQ.OA{x:List Int}{a:Option Addr}{cp:Nat}(hx:S.Eg.aC[Vs.length]?=some x)(hA:gC W a x.length (x.map I)):yQ S ls sa ma da xa As (Vs++[.slice a x.length cp]) Ds W:=
 ⟨H.Rw,H.mid,H.draws,H.done,H.gs,fun j y B hy hB=>by
  rcases yR hB with h|⟨rfl,rfl⟩
  ·exact H.aC j y B hy h
  ·rw[hx]at hy;cases hy;exact⟨a,cp,rfl,hA⟩,H.nA⟩
theorem yQ.OB{r:Ring}{D:List Value}(hx:S.au[Ds.length]?=some r)(hA:HRd S ls Ds.length r D W):yQ S ls sa ma da xa As Vs (Ds++[D]) W:=
 ⟨H.Rw,H.mid,H.draws,H.done,H.gs,H.aC,fun j y B hy hB=>by
  rcases yR hB with h|⟨rfl,rfl⟩
  ·exact H.nA j y B hy h
  ·rw[hx]at hy;cases hy;exact hA⟩
end
end
structure yS(S:Wd)(ls:List (List Nat))(w w':World)(sa ma da xa ga ca ha:Option Addr)(As:List (List Value))(Vs:List Value)(Ds:List (List Value)):Prop where
 la:As.length=S.gs.length
 a25:∀A∈As,A.length=25
 lv:Vs.length=S.gs.length
 ld:Ds.length=S.au.length
 d6:∀D∈Ds,D.length=6
 below:Below w.heap.size w w'
 gs:∀W,lO w.heap.size w' W→gC W ga S.gs.length As.flatten
 aC:∀W,lO w.heap.size w' W→gC W ca S.gs.length Vs
 nA:∀W,lO w.heap.size w' W→gC W ha S.au.length Ds.flatten
 rd:∀W,lO w.heap.size w' W→yQ S ls sa ma da xa As Vs Ds W
structure tc(S:Wd)(ls:List (List Nat)):Prop where
 Rw:S.ah.length≤64
 mid:S.Eg.aK.length≤1000
 draws:S.draws.length≤1000
 done:S.done.length≤900000
 gs:S.gs.length≤100
 gor:∀(j:Nat) x,S.gs[j]?=some x→CY x.ops∧x.aH.length≤1000∧x.aq.length≤1000∧x.bA.length≤1000∧x.wakes.length≤1000
 aC:S.Eg.aC.length=S.gs.length
 cache:∀(j:Nat) x,S.Eg.aC[j]?=some x→x.length≤1000
 au:S.au.length≤8
 eU:∀r∈S.au,r.Ok
 aO:S.aO.length=S.au.length
 q:V.xQ S.aw ls
 bM:ls.length=16
 line:∀l∈ls,l.length≤1000
 aS:S.aw.aS.length≤1000
theorem xb{W W3 w':World}{r:Option Nat}(h:W3.grownBy w' r)(hh:W3.heap=W.heap)(h1:W3.os=W.os)(h2:W3.tape=W.tape)(h3:W3.output=W.output):W.grownBy w' r:=
 ⟨h.os.trans h1,h.tape.trans h2,h.output.trans h3,by rw[←hh];exact h.size,fun k hk hn=>by rw[←hh];exact h.block k (by rw[hh];exact hk) hn⟩
theorem Tryz.SD:(prog.info? 28).map (fun i=>(i.zero,i.size,i.bytes))=some (some (.slice none 0 0),1,24):=kX
theorem Tryz.Kf:(prog.info? 59).map (fun i=>(i.zero,i.size,i.bytes))=some (some (.agg #[I 0,.slice none 0 0,B false,I 0,.slice none 0 0,.slice none 0 0]),6,96):=kX
theorem Zr:prog.underlying 38=some (.slice 28):=kX
theorem UM:prog.underlying 36=some (.slice 59):=kX
theorem OC(args:Array Value)(w:World):(callFunc 52 args).run prog w=.ok (.enter 52 args) w:=by
 have hN : (Tryz.f52.name == "runtime.NumGoroutine") = false := kX
 have hN : ¬ Tryz.f52.name = "runtime.NumGoroutine" := by simpa using hN
 have hB:Tryz.f52.body.isNone=false:=kX
 have hB:¬Tryz.f52.body=none:=fun h=>by rw[h]at hB;cases hB
 simp[callFunc,func52,go_sem,hN,hB]
section
variable{af:Nat}{F:Fx}{w w0:World}{m m0:Mem}{S:Wd}
theorem bz.Zs(R:bz af F w m S){g:Nat}{x:bI}(hx:S.gs[g]?=some x)(hI:CY x.ops):∃oa oc,m.cU (.ops g) x.ops.length=.slice oa x.ops.length oc∧kC w oa x.ops:=by
 by_cases h0:x.ops=[]
 ·cases hb:m.aV (.ops g) with
  |none=>exact⟨none,0,by rw[Mem.j6 hb,h0];rfl,by rw[h0];simp,fun j o ho=>by rw[h0]at ho;cases ho⟩
  |some b=>exact⟨_,_,Mem.de hb _,by rw[h0];simp,fun j o ho=>by rw[h0]at ho;cases ho⟩
 ·obtain⟨o0,ho0⟩:∃o,x.ops[0]?=some o:=⟨_,fv (pd h0)⟩;obtain⟨ob,jz,hh,_⟩:=R.ops hx ho0;refine⟨_,_,hh,by have:=hI.1;omega,fun j o ho=>?_⟩;obtain⟨ob',Zt,_,hc⟩:=R.ops hx ho;rw[jz]at Zt;cases Zt;obtain⟨a,cc,hca,mP⟩:=R.cases hx ho;obtain⟨i1,i2,i3,i4,i5,i6⟩:=hI.2 o (lf ho);refine⟨ob,0,a,cc,rfl,?_⟩;simp only[Nat.zero_add];refine⟨hc 0 _ rfl,hc 1 _ rfl,hc 2 _ rfl,hc 3 _ rfl,hc 4 _ (by rw[←hca];rfl),hc 5 _ rfl,⟨oX,fun k c hk=>?_⟩,i1,i2,i3,i4⟩;obtain⟨cb,rfl,_,fP⟩:=mP (fun e=>by rw[e]at hk;cases hk);have c2:=fun t ht v hv=>fP (k*3+t) v (by have:=fq (f:=fT) (k:=3) (fun _ _=>rfl) o.cases 0 k t c hk ht;rw[this];exact hv)
  have hi:=i6 c (lf hk);simp only[Nat.zero_add]at c2;refine⟨cb,0,rfl,?_⟩;simp only[Nat.zero_add];exact⟨c2 0 oX _ rfl,c2 1 oX _ rfl,c2 2 oX _ rfl,hi.1,hi.2⟩
theorem Fc(m:Mem)(g:Nat)(x:bI):∀u∈gk m g x,u.oneCell'=true:=by
 have hh:∀r n,(m.cU r n).oneCell'=true:=fun r n=>by unfold Mem.cU;cases m.aV r<;>rfl
 intro u hu;simp only[gk,ru,sY,List.nil_append,iL,List.not_mem_nil,or_false]at hu;rcases hu with rfl|rfl|rfl|rfl|rfl|rfl|rfl|rfl|rfl|rfl|rfl|rfl|rfl|rfl|rfl|rfl|rfl|rfl|rfl|rfl|rfl|rfl|rfl|rfl|rfl
 all_goals first|rfl|exact hh _ _
theorem LM(R:bz af F w m S){j:Nat}{x:bI}(hx:S.gs[j]?=some x)(hI:CY x.ops∧x.aH.length≤1000∧x.aq.length≤1000∧x.bA.length≤1000∧x.wakes.length≤1000):∃oa oc r1 c1 r2 c2 r3 c3 r4 c4,gk m j x=yP x x.bU x.token (.slice oa x.ops.length oc) (.slice r1 x.aH.length c1) (.slice r2 x.aq.length c2) (.slice r3 x.bA.length c3) (.slice r4 x.wakes.length c4)∧∀W,Below w.heap.size w W→Calls prog 49 #[.agg (yP x x.bU x.token (.slice oa x.ops.length oc) (.slice r1 x.aH.length c1) (.slice r2 x.aq.length c2) (.slice r3 x.bA.length c3) (.slice r4 x.wakes.length c4)).toArray] W fun e w'=>∃oa oc r1 c1 r2 c2 r3 c3 r4 c4,e=.returned (.agg (yP x x.bU x.token (.slice oa x.ops.length oc) (.slice r1 x.aH.length c1) (.slice r2 x.aq.length c2) (.slice r3 x.bA.length c3) (.slice r4 x.wakes.length c4)).toArray)∧(∀st tk W2,lO W.heap.size w' W2→Zq x st tk (yP x st tk (.slice oa x.ops.length oc) (.slice r1 x.aH.length c1) (.slice r2 x.aq.length c2) (.slice r3 x.bA.length c3) (.slice r4 x.wakes.length c4)) W2)∧Below W.heap.size W w':=by
 obtain⟨oa,oc,ho,jF⟩:=R.Zs hx hI.1;have e1:aj m S (.aH j)=x.aH.map I:=bn9
 have e2:aj m S (.aq j)=x.aq.map I:=bn9
 have e3:aj m S (.bA j)=x.bA.map I:=bn9
 have e4:aj m S (.wakes j)=x.wakes.map I:=bn9
 obtain⟨r1,c1,h1,s1⟩:=R.Ib (r:=.aH j) (n:=x.aH.length) (by rw[e1];exact qF);obtain⟨r2,c2,h2,s2⟩:=R.Ib (r:=.aq j) (n:=x.aq.length) (by rw[e2];exact qF);obtain⟨r3,c3,h3,s3⟩:=R.Ib (r:=.bA j) (n:=x.bA.length) (by rw[e3];exact qF);obtain⟨r4,c4,h4,s4⟩:=R.Ib (r:=.wakes j) (n:=x.wakes.length) (by rw[e4];exact qF);rw[e1]at s1;rw[e2]at s2;rw[e3]at s3;rw[e4]at s4;have BS:gk m j x=yP x x.bU x.token (.slice oa x.ops.length oc) (.slice r1 x.aH.length c1) (.slice r2 x.aq.length c2) (.slice r3 x.bA.length c3) (.slice r4 x.wakes.length c4):=by unfold gk yP;rw[ho,h1,h2,h3,h4]
 refine⟨oa,oc,r1,c1,r2,c2,r3,c3,r4,c4,BS,fun W hb=>?_⟩;have VZ:(yP x x.bU x.token (.slice oa x.ops.length oc) (.slice r1 x.aH.length c1) (.slice r2 x.aq.length c2) (.slice r3 x.bA.length c3) (.slice r4 x.wakes.length c4)).toArray.all (·.oneCell')=true:=by rw[←BS,List.all_toArray];exact List.all_eq_true.2 (Fc m j x)
 refine(Fa _ rfl VZ x.ops oa oc rfl hI.1 x.aH.length x.aq.length x.bA.length x.wakes.length (x.aH.map I) (x.aq.map I) (x.bA.map I) (x.wakes.map I) sX ⟨ints_oneCell _ _,ints_oneCell _ _,ints_oneCell _ _,ints_oneCell _ _⟩ r1 r2 r3 r4 c1 c2 c3 c4 rfl rfl rfl rfl ⟨hI.2.1,hI.2.2.1,hI.2.2.2.1,hI.2.2.2.2⟩ W (jF.below hb cG) (s1.below hb cG) (s2.below hb cG) (s3.below hb cG) (s4.below hb cG)).mono ?_;rintro e w' ⟨Kd,LJ,b1,d1,b2,d2,b3,d3,b4,d4,rfl,hA,hB⟩;exact⟨Kd,LJ,b1,d1,b2,d2,b3,d3,b4,d4,rfl,fun st tk W2 Rx=>⟨_,_,_,_,_,_,_,_,_,_,rfl,hA W2 Rx⟩,hB⟩
end
theorem tR{P:Program}{ops:Array Oper}{o:Oper}{a:Act}{w:World}{K:Act→World→Prop}{Q:Exit→Act→World→Prop}{E:Prop}(nX:o.guard=none)(s x:Operand)(t:TypeId)(ho:o.op=.call {callee:=.builtin .append,args:=#[s,x],argTypes:=#[t,t]}){e:TypeId}{i:TypeInfo}{z:Value}{size bytes:Nat}(ht:P.underlying t=some (.slice e))(hi:P.info? e=some i)(hz:i.zero=some z)(hsize:i.size=size)(hby:i.bytes=bytes)(hzs:z.cells.size=size)(hsz:0<size)(hbb:bytes≤200)(hs:a.eval s=.slice none 0 0)(ao:Option Addr)(n c:Nat)(hx:a.eval x=.slice ao n c)(cs:List Value)(hl:cs.length=n*size)(hc:gC w ao n cs)(h1:∀u∈cs,u.oneCell'=true)(hn:n<1000001)(h:∀hb cap w',Below w.heap.size w w'→gC w' hb n cs→(∀b off,hb=some ⟨b,off,none⟩→w.heap.size≤b∧b<w'.heap.size)→K (a.put o.dst (.slice hb n cap)) w'):if Region.wanted o (yielded ops a.tmps)=true then Oper.wp P o a w K Q else E:=by
 have hw:Region.wanted o (yielded ops a.tmps)=true:=bm2
 rw[aF hw];refine tN s x t ho ht hi hz hsize hby hzs hsz hbb hs ao n c hx cs hl hc h1 hn fun hb cap w' h2 h3=>?_
 exact h hb cap w' ((fp _ _).grown h2 cG bj7) (gC.qE h3) (pG h3)
abbrev td:=Option Addr×Nat×List Value
abbrev qG:Array Value:=#[I 0,I 0,I 0,.slice none 0 0,.slice none 0 0,.slice none 0 0,.slice none 0 0,.slice none 0 0,I 0,.slice none 0 0,I 0,.slice none 0 0]
structure ix(w W:World)(L:List td)(bo:Option Nat):Prop where
 below:Below w.heap.size w W
 rd:∀e∈L,gC W e.1 e.2.1 e.2.2
 fr:∀e∈L,∀b off,e.1=some ⟨b,off,none⟩→w.heap.size≤b∧b<W.heap.size∧bo≠some b
 box:∀b,bo=some b→w.heap.size≤b∧W.heap[b]?=some (.cells qG 41 (0,0))
section
variable{w W W':World}{L:List td}{bo:Option Nat}
section
variable(H:ix w W L bo)(hb:Below W.heap.size W W')
include H hb
theorem ix.call:ix w W' L bo:=
 ⟨H.below.trans (hb.mono H.below.size),fun e he=>(H.rd e he).below hb cG,fun e he b off h=>⟨(H.fr e he b off h).1,uB (H.fr e he b off h).2.1 hb.size,(H.fr e he b off h).2.2⟩,fun b h=>⟨(H.box b h).1,(hb.block b (dh (H.box b h).2).1).trans (H.box b h).2⟩⟩
theorem ix.ext{a:Option Addr}{n:Nat}{cs:List Value}(h:gC W' a n cs)(hf:∀b off,a=some ⟨b,off,none⟩→W.heap.size≤b∧b<W'.heap.size):ix w W' ((a,n,cs)::L) bo:=by
 have H':=H.call hb;refine⟨H'.below,fun e he=>?_,fun e he b off h=>?_,H'.box⟩
 ·rcases iL.1 he with rfl|he
  ·exact h
  ·exact H'.rd e he
 ·rcases iL.1 he with rfl|he
  ·have:=hf b off h;refine⟨jm H.below.size this.1,this.2,fun e=>?_⟩;have:=(dh (H.box b e).2).1;omega
  ·exact H'.fr e he b off h
end
theorem ix.drew(H:ix w W L bo):ix w W.drew L bo:=H.call (fp _ _).drew
theorem ix.new(H:ix w W L none):ix w (W.alloc (.cells qG 41)) L (some W.heap.size):=by
 have H':=H.call ((fp W.heap.size W).alloc cG (.cells qG 41));refine⟨H'.below,H'.rd,fun e he b off h=>⟨(H'.fr e he b off h).1,(H'.fr e he b off h).2.1,fun e2=>?_⟩,fun b h=>?_⟩
 ·have:=(H.fr e he b off h).2.1
  cases e2;omega
 ·cases h;exact⟨H.below.size,dP _ _⟩
theorem ix.Nr{bx:Nat}(H:ix w W L (some bx)):w.heap.size≤bx:=(H.box bx rfl).1
theorem ix.cells{bx:Nat}(H:ix w W L (some bx)):W.cell? ⟨bx,0,none⟩=some (I 0)∧W.cell? ⟨bx,1,none⟩=some (I 0)∧W.cell? ⟨bx,2,none⟩=some (I 0)∧W.cell? ⟨bx,3,none⟩=some (.slice none 0 0)∧W.cell? ⟨bx,4,none⟩=some (.slice none 0 0)∧W.cell? ⟨bx,5,none⟩=some (.slice none 0 0)∧W.cell? ⟨bx,6,none⟩=some (.slice none 0 0)∧W.cell? ⟨bx,7,none⟩=some (.slice none 0 0)∧W.cell? ⟨bx,8,none⟩=some (I 0)∧W.cell? ⟨bx,9,none⟩=some (.slice none 0 0)∧W.cell? ⟨bx,10,none⟩=some (I 0)∧W.cell? ⟨bx,11,none⟩=some (.slice none 0 0)∧∀j,W.frozen? ⟨bx,j,none⟩=false:=by
 have hb:=(H.box bx rfl).2;simp only[cr _ _ _ _ _ _ hb];exact⟨rfl,rfl,rfl,rfl,rfl,rfl,rfl,rfl,rfl,rfl,rfl,rfl,fun j=>iM _ _ _ _ _ hb⟩
end
theorem SE:(prog.info? 46).map (fun i=>(i.zero,i.size,i.bytes))=some (some (.agg #[I 0,I 0,I 0,I 0,I 0,I 0,I 0,I 0,I 0,I 0,I 0,B false,I 0]),13,104):=kX
theorem Fe:∀(l:List gn) (i:Nat),∀u∈bT mg i l,u.oneCell'=true
 | [],_,_,h=>by simp[bT]at h
 |s::l,i,u,h=>by
  simp only[bT,mg,sY,List.nil_append,iL]at h;rcases h with rfl|rfl|rfl|rfl|rfl|rfl|rfl|h
  all_goals first|rfl|exact Fe l (i+1) u h
theorem BT:∀(l:List Ex) (i:Nat),∀u∈bT ib i l,u.oneCell'=true
 | [],_,_,h=>by simp[bT]at h
 |s::l,i,u,h=>by
  simp only[bT,ib,ru,sY,List.nil_append,iL]at h;rcases h with rfl|rfl|rfl|rfl|rfl|rfl|rfl|rfl|rfl|rfl|rfl|rfl|rfl|h
  all_goals first|rfl|exact BT l (i+1) u h
theorem iq{b b':Nat}(h:b≠b'):∀(vs:List Value) (o:Nat) (w:World),(w.setCells b' o vs).heap[b]?=w.heap[b]?
 | [],_,_=>rfl
 |v::vs,o,w=>(iq h vs (o+1) _).trans (fQ _ _ _ _ bj3)
theorem j9{b':Nat}:∀(vs:List Value) (o:Nat) (w:World),(w.setCells b' o vs).heap.size=w.heap.size
 | [],_,_=>rfl
 |v::vs,o,w=>(j9 vs (o+1) _).trans bp1
section
variable{af:Nat}{F:Fx}{w w0:World}{m m0:Mem}{S:Wd}
structure rk(w wx:World)(S:Wd)(bx:Nat)(sa:Option Addr)(sc:Nat)(ma:Option Addr)(mc:Nat)(da:Option Addr)(dc:Nat)(xa:Option Addr)(xc:Nat):Prop where
 below:Below w.heap.size w wx
 rd:∀W:World,(∀b,w.heap.size≤b→b<wx.heap.size→b≠bx→W.heap[b]?=wx.heap[b]?)→gC W sa S.ah.length (bT mg 0 S.ah)∧gC W ma S.Eg.aK.length (S.Eg.aK.map I)∧gC W da S.draws.length (S.draws.map U)∧gC W xa S.done.length (bT ib 0 S.done)
 le:w.heap.size≤bx
 box:wx.heap[bx]?=some (.cells #[I S.dV,I S.eT,I S.av,.slice none 0 0,.slice none 0 0,.slice sa S.ah.length sc,.slice none 0 0,.slice ma S.Eg.aK.length mc,I S.Eg.cO,.slice da S.draws.length dc,I S.drawn,.slice xa S.done.length xc] 41 (0,0))
theorem rk.start{w wx:World}{S:Wd}{ls:List (List Nat)}{bx:Nat}{sa:Option Addr}{sc:Nat}{ma:Option Addr}{mc:Nat}{da:Option Addr}{dc:Nat}{xa:Option Addr}{xc:Nat}(H:rk w wx S bx sa sc ma mc da dc xa xc):mw w wx S bx (.slice sa S.ah.length sc) (.slice ma S.Eg.aK.length mc) (.slice da S.draws.length dc) (.slice xa S.done.length xc) 0 0 0 (.slice none 0 0) (.slice none 0 0) (.slice none 0 0) ([]:List (List Value)).flatten [] ([]:List (List Value)).flatten (yQ S ls sa ma da xa [] [] []):=by
 have O:=(((cN.nil (κ:=SK) w.heap.size w cG tyS).eC H.below).put (r:=.box) (b:=bx) (cp:=1) (xs:=Oy S (.slice none 0 0) (.slice none 0 0) (.slice sa S.ah.length sc) (.slice none 0 0) (.slice ma S.Eg.aK.length mc) (.slice da S.draws.length dc) (.slice xa S.done.length xc)) H.le (fun k b' h=>bk0)
  ⟨_,_,H.box,by simp[Oy],rfl,fun p hp=>by cases hp;exact⟨rfl,rfl,bj4⟩⟩)
 refine⟨_,_,_,O,bq _ _ _,bq _ _ _,bq _ _ _,rfl,rfl,rfl,rfl,rfl,rfl,fun W hW=>?_⟩
 obtain⟨h1,h2,h3,h4⟩:=H.rd W fun b q1 q2 q3=>hW b q1 q2 fun k e=>by
  by_cases hk:k=.box
  ·subst hk;rw[bq]at e;cases e;exact q3 rfl
  ·rw[aD _ _ hk]at e;cases e
 exact⟨h1,h2,h3,h4,fun j x A _ hA=>(by cases hA),fun j x A _ hA=>(by cases hA),fun j x A _ hA=>(by cases hA)⟩
theorem jC{w wx W:World}{bx:Nat}{a:Option Addr}{n:Nat}{cs:List Value}(h:gC wx a n cs)(hf:∀b off,a=some ⟨b,off,none⟩→w.heap.size≤b∧b<wx.heap.size∧b≠bx)(hW:∀b,w.heap.size≤b→b<wx.heap.size→b≠bx→W.heap[b]?=wx.heap[b]?):gC W a n cs:=fun h0=>by
 obtain⟨b,off,e,h1⟩:=h h0;obtain⟨f1,f2,f3⟩:=hf b off e;refine⟨b,off,e,fun j u hu=>?_⟩;rw[kZ (w:=wx) (a:=⟨b,off+j,none⟩) (hW b f1 f2 f3)];exact h1 j u hu
theorem rk.al9{w W:World}{L:List td}(X:ix w W L none){sa ma da xa:Option Addr}{sc mc dc xc:Nat}(h1:(sa,S.ah.length,bT mg 0 S.ah)∈L)(h2:(ma,S.Eg.aK.length,S.Eg.aK.map I)∈L)(h3:(da,S.draws.length,S.draws.map U)∈L)(h4:(xa,S.done.length,bT ib 0 S.done)∈L):rk w (W.alloc (.cells #[I S.dV,I S.eT,I S.av,.slice none 0 0,.slice none 0 0,.slice sa S.ah.length sc,.slice none 0 0,.slice ma S.Eg.aK.length mc,I S.Eg.cO,.slice da S.draws.length dc,I S.drawn,.slice xa S.done.length xc] 41)) S W.heap.size sa sc ma mc da dc xa xc:=by
 have hB:=(fp W.heap.size W).alloc cG (.cells #[I S.dV,I S.eT,I S.av,.slice none 0 0,.slice none 0 0,.slice sa S.ah.length sc,.slice none 0 0,.slice ma S.Eg.aK.length mc,I S.Eg.cO,.slice da S.draws.length dc,I S.drawn,.slice xa S.done.length xc] 41);have X':=X.call hB;have hf:∀e∈L,∀b off,e.1=some ⟨b,off,none⟩→w.heap.size≤b∧b<(W.alloc (.cells #[I S.dV,I S.eT,I S.av,.slice none 0 0,.slice none 0 0,.slice sa S.ah.length sc,.slice none 0 0,.slice ma S.Eg.aK.length mc,I S.Eg.cO,.slice da S.draws.length dc,I S.drawn,.slice xa S.done.length xc] 41)).heap.size∧b≠W.heap.size:=fun e he b off h=>⟨(X'.fr e he b off h).1,(X'.fr e he b off h).2.1,by have:=(X.fr e he b off h).2.1;omega⟩
 exact⟨X'.below,fun W2 hW=>⟨jC (X'.rd _ h1) (hf _ h1) hW,jC (X'.rd _ h2) (hf _ h2) hW,jC (X'.rd _ h3) (hf _ h3) hW,jC (X'.rd _ h4) (hf _ h4) hW⟩,X.below.size,dP _ _⟩
theorem rk.r7{w W:World}{L:List td}{bx:Nat}(X:ix w W L (some bx)){sa ma da xa:Option Addr}{sc mc dc xc:Nat}(h1:(sa,S.ah.length,bT mg 0 S.ah)∈L)(h2:(ma,S.Eg.aK.length,S.Eg.aK.map I)∈L)(h3:(da,S.draws.length,S.draws.map U)∈L)(h4:(xa,S.done.length,bT ib 0 S.done)∈L):rk w (W.setCells bx 0 [I S.dV,I S.eT,I S.av,.slice none 0 0,.slice none 0 0,.slice sa S.ah.length sc,.slice none 0 0,.slice ma S.Eg.aK.length mc,I S.Eg.cO,.slice da S.draws.length dc,I S.drawn,.slice xa S.done.length xc]) S bx sa sc ma mc da dc xa xc:=by
 obtain⟨gq,mz⟩:=X.box bx rfl;have hf:∀e∈L,∀b off,e.1=some ⟨b,off,none⟩→w.heap.size≤b∧b<W.heap.size∧b≠bx:=fun e he b off h=>⟨(X.fr e he b off h).1,(X.fr e he b off h).2.1,fun e2=>(X.fr e he b off h).2.2 (by rw[e2])⟩
 refine⟨Below.setCells gq _ _ _ X.below,fun W2 hW=>?_,gq,dI (cs:=#[I S.dV,I S.eT,I S.av,.slice none 0 0,.slice none 0 0,.slice sa S.ah.length sc,.slice none 0 0,.slice ma S.Eg.aK.length mc,I S.Eg.cO,.slice da S.draws.length dc,I S.drawn,.slice xa S.done.length xc]) mz rfl⟩;have Rx:∀b,w.heap.size≤b→b<W.heap.size→b≠bx→W2.heap[b]?=W.heap[b]?:=fun b h1 h2 h3=>by rw[hW b h1 (by rw[j9];exact h2) h3,iq h3]
 exact⟨jC (X.rd _ h1) (hf _ h1) Rx,jC (X.rd _ h2) (hf _ h2) Rx,jC (X.rd _ h3) (hf _ h3) Rx,jC (X.rd _ h4) (hf _ h4) Rx⟩
theorem rk.am0{w W:World}{L:List td}{bx:Nat}(X:ix w W L (some bx)){sa ma da xa:Option Addr}{sc mc dc xc:Nat}(h1:(sa,S.ah.length,bT mg 0 S.ah)∈L)(h2:(ma,S.Eg.aK.length,S.Eg.aK.map I)∈L)(h3:(da,S.draws.length,S.draws.map U)∈L)(h4:(xa,S.done.length,bT ib 0 S.done)∈L):rk w ((((((((((((W.setCell ⟨bx,0,none⟩ (I S.dV)).setCell ⟨bx,1,none⟩ (I S.eT)).setCell ⟨bx,2,none⟩ (I S.av)).setCell ⟨bx,3,none⟩ (.slice none 0 0)).setCell ⟨bx,4,none⟩ (.slice none 0 0)).setCell ⟨bx,5,none⟩ (.slice sa S.ah.length sc)).setCell ⟨bx,6,none⟩ (.slice none 0 0)).setCell ⟨bx,7,none⟩ (.slice ma S.Eg.aK.length mc)).setCell ⟨bx,8,none⟩ (I S.Eg.cO)).setCell ⟨bx,9,none⟩ (.slice da S.draws.length dc)).setCell ⟨bx,10,none⟩ (I S.drawn)).setCell ⟨bx,11,none⟩ (.slice xa S.done.length xc)) S bx sa sc ma mc da dc xa xc:=rk.r7 X h1 h2 h3 h4
end
theorem aJ4(o:cu)(hk:o.ai=9)(a:Option Addr)(c:Nat)(w:World)(n:Nat)(hn:n=o.cases.length)(hr:mI o=true)(Lo:o.ch≠0∨o.v≠0∨o.n≠0):Calls prog 42 #[.agg #[I o.ai,I o.ch,I o.n,I o.v,.slice a n c,B o.dG]] w (eL (.bool (yF o)) (Below w.heap.size w)):=by
 have e:yF o=false:=by
  rw[DB,hr,hk];have h1:il 9=false:=dX
  have h2:kD 9=false:=dX
  rw[h1,h2];rcases Lo with h|h|h<;>simp[h]
 rw[e,hk];have hn6:n≤6:=by unfold mI at hr;simp at hr;rw[hn];omega
 have hn7:decide (6<(n:Int))=false:=bi8
 have gq:il 9=false:=dX
 have mz:kD 9=false:=dX
 have C5:0≤o.ch∧o.ch≤8∧0≤o.n∧o.n≤4∧0≤o.v∧o.v≤255:=br8
 obtain⟨ch,bO⟩:=dC (o.ch);obtain⟨nn,Ww⟩:=dC (o.n);obtain⟨v,hv⟩:=dC (o.v);rw[←bO,←Ww,←hv]at C5 Lo ⊢;obtain⟨r1,r2,r3,r4,r5,r6⟩:=C5;clear hr hn hk e bO Ww hv;go_enter func42,ntmps42;go_wp2_with (first|(go_at_call 75;refine(sq _ _).mono ?_;rintro e w1 ⟨rfl,rfl⟩)|(go_at_call 76;refine(uc _ _).mono ?_;rintro e w1 ⟨rfl,rfl⟩))
 all_goals first
  |(exfalso;omega)
  |(go_ret;exact⟨rfl,(fp _ _).alloc cG _⟩)
  |(exfalso;simp_all;done)
  |(exfalso;simp_all;omega)
end Go.Proofs.YtadifmnmfnihdaaGreat
