import Derived.Deep.CutRange
import Derived.StillTailTactics
import Derived.Deep.RegionWith
import Derived.Deep.Cut
import Derived.Deep.WholeRow
import Derived.Deep.CutBlock
import Derived.Shelf.Bits.Mul64
import Derived.Test.YtadifmnmfnihdaaGreatA01
set_option linter.all false
set_option maxRecDepth 100000
set_option maxHeartbeats 40000000
namespace Go.Proofs.YtadifmnmfnihdaaGreat
open Go.RowKit Mach
def up{κ α:Type}[DecidableEq κ](f:κ→α)(k:κ)(x:α):κ→α:=fun k'=>if k'=k then x else f k'
theorem bq{κ α:Type}[DecidableEq κ](f:κ→α)(k:κ)(x:α):up f k x k=x:=by simp[up]
theorem aD{κ α:Type}[DecidableEq κ](f:κ→α){k k':κ}(x:α)(h:k'≠k):up f k x k'=f k':=by simp[up,h]
structure cN{κ:Type}(lo:Nat)(w0 w:World)(aV:κ→Option Nat)(ty:κ→Option (Nat×Nat))(cap:κ→Nat)(c:κ→List Value):Prop where
 below:Below lo w0 w
 tL:lo≤w.heap.size
 inj:∀k k' b,aV k=some b→aV k'=some b→k=k'
 lies:∀k b,aV k=some b→lo≤b∧gl w b (ty k) (cap k) (c k)
 none_:∀k,aV k=none→c k=[]
def nG(b:Option Nat)(n c:Nat):Value:=match b with|none=> .slice none 0 0|some b=> .slice (some ⟨b,0,none⟩) n c
theorem qC(m:Mem)(r:bH)(n:Nat):m.cU r n=nG (m.aV r) n (m.cap r):=by unfold Mem.cU nG;cases m.aV r<;>rfl
theorem gV(b:Option Nat)(n c:Nat):(nG b n c).ownBlock=b:=by cases b<;>rfl
section
variable{κ:Type}{lo:Nat}{w0 w w':World}{aV:κ→Option Nat}{ty:κ→Option (Nat×Nat)}{cap:κ→Nat}{c:κ→List Value}
theorem cN.lt(H:cN lo w0 w aV ty cap c){k:κ}{b:Nat}(h:aV k=some b):b<w.heap.size:=(H.lies k b h).2.lt
theorem cN.cell(H:cN lo w0 w aV ty cap c){k:κ}{b j:Nat}{v:Value}(h:aV k=some b)(hv:(c k)[j]?=some v):w.cell? ⟨b,j,none⟩=some v:=(H.lies k b h).2.cell j v hv
theorem cN.frozen(H:cN lo w0 w aV ty cap c){k:κ}{b:Nat}(h:aV k=some b)(j:Nat):w.frozen? ⟨b,j,none⟩=false:=(H.lies k b h).2.frozen j
theorem cN.eC(H:cN lo w0 w aV ty cap c)(hb:Below w.heap.size w w'):cN lo w0 w' aV ty cap c:=
 ⟨H.below.trans (hb.mono H.tL),jm H.tL hb.size,H.inj,fun k b h=>⟨(H.lies k b h).1,(H.lies k b h).2.other (hb.block b (H.lt h))⟩,H.none_⟩
theorem cN.drew(H:cN lo w0 w aV ty cap c):cN lo w0 w.drew aV ty cap c:=H.eC (fp _ _).drew
theorem cN.alloc(H:cN lo w0 w aV ty cap c)(o:Obj):cN lo w0 (w.alloc o) aV ty cap c:=H.eC ((fp _ _).alloc cG o)
theorem cN.nil(lo:Nat)(w:World)(h:lo≤w.heap.size)(ty:κ→Option (Nat×Nat)):cN lo w w (fun _=>none) ty (fun _=>0) (fun _=>[]):=
 ⟨fp _ _,h,fun _ _ _ h=>(by cases h),fun _ _ h=>(by cases h),fun _ _=>rfl⟩
theorem cN.congr(H:cN lo w0 w aV ty cap c){c':κ→List Value}(h:∀k,c' k=c k):cN lo w0 w aV ty cap c':=by
 have:c'=c:=funext h;rw[this];exact H
theorem cN.other(H:cN lo w0 w aV ty cap c){a:Addr}(hn:∀k,aV k≠some a.block)(h0:lo≤a.block)(v:Value):cN lo w0 (w.setCell a v) aV ty cap c:=
 ⟨H.below.setCell h0 v,by simpa[World.setCell]using H.tL,H.inj,fun k b h=>⟨(H.lies k b h).1,(H.lies k b h).2.other (fQ _ _ _ _ (fun e=>hn k (e▸h)))⟩,H.none_⟩
theorem cN.owns(H:cN lo w0 w aV ty cap c){k:κ}{p:Nat×Nat}(nI:ty k=some p)(h0:0<p.2){n:Nat}(hn:(c k).length=n*p.2):w.ownsRow lo p.1 p.2 (nG (aV k) n (cap k)) n (c k):=by
 cases hb:aV k with
 |none=>
  have:=H.none_ k hb;rw[this]at hn ⊢
  have:n=0:=by
   rcases Nat.eq_zero_or_pos n with h|h
   ·exact h
   ·have:=Nat.mul_pos h h0;simp at hn;omega
  subst this;exact World.ownsRow_nil _ _ _ _
 |some b=>
  obtain⟨hg,arr,t,h1,h2,h3,h4⟩:=H.lies k b hb;obtain⟨rfl,h5,h6⟩:=h4 p nI;refine⟨hn,.inr ⟨b,cap k,arr,rfl,hg,h1,?_,h6,h5,by rw[←hn];exact h3⟩⟩;rw[hn,h5]at h2;exact Nat.le_of_mul_le_mul_right h2 h0
variable[DecidableEq κ]
theorem cN.row(H:cN lo w0 w aV ty cap c){r:κ}{p:Nat×Nat}{g n cp:Nat}{xs:List Value}(nI:∀q,ty r=some q→q=p)(hg:w.grownBy w' (aV r))(hown:w'.ownsRow lo p.1 p.2 (.slice (some ⟨g,0,none⟩) n cp) n xs)(bE:aV r=some g∨w.heap.size≤g):cN lo w0 w' (up aV r (some g)) ty (up cap r cp) (up c r xs):=by
 have qw:∀r' b',r'≠r→aV r'=some b'→b'≠g:=by
  intro r' b' h1 h2 e;subst e;rcases bE with h|h
  ·exact h1 (H.inj r' r _ h2 h)
  ·exact aX (H.lt h2) (by omega)
 obtain⟨yp,rJ⟩:=gl.kg (ty:=ty r) nI hown;refine⟨H.below.grown hg H.tL (fun k hk=>(H.lies r k hk).1),jm H.tL hg.size,fun r1 r2 b' h1 h2=>?_,fun r' b' ff=>?_,fun r' hT=>?_⟩
 ·by_cases e1:r1=r<;>by_cases e2:r2=r
  ·rw[e1,e2]
  ·subst e1;rw[bq]at h1;rw[aD _ _ e2]at h2
   cases h1;exact aX rfl (qw r2 _ e2 h2)
  ·subst e2;rw[bq]at h2;rw[aD _ _ e1]at h1
   cases h2;exact aX rfl (qw r1 _ e1 h1)
  ·rw[aD _ _ e1]at h1;rw[aD _ _ e2]at h2;exact H.inj r1 r2 b' h1 h2
 ·by_cases e1:r'=r
  ·subst e1;rw[bq]at ff
   cases ff;rw[bq,bq];exact⟨yp,rJ⟩
  ·rw[aD _ _ e1]at ff;rw[aD _ _ e1,aD _ _ e1];exact⟨(H.lies _ _ ff).1,(H.lies _ _ ff).2.other (hg.block b' (H.lt ff) (fun e=>e1 (H.inj r' r _ ff e.symm)))⟩
 ·have e1:r'≠r:=fun e=>by rw[e,bq]at hT;cases hT
  rw[aD _ _ e1]at hT ⊢;exact H.none_ r' hT
theorem cN.add(H:cN lo w0 w aV ty cap c){r:κ}{b cp:Nat}{xs:List Value}(hb:Below w.heap.size w w')(h0:w.heap.size≤b)(hl:gl w' b (ty r) cp xs):cN lo w0 w' (up aV r (some b)) ty (up cap r cp) (up c r xs):=by
 have H':=H.eC hb;refine⟨H'.below,H'.tL,fun r1 r2 b' h1 h2=>?_,fun r' b' ff=>?_,fun r' hT=>?_⟩
 ·by_cases e1:r1=r<;>by_cases e2:r2=r
  ·rw[e1,e2]
  ·subst e1;rw[bq]at h1;rw[aD _ _ e2]at h2
   cases h1;exact aX (H.lt h2) (by omega)
  ·subst e2;rw[bq]at h2;rw[aD _ _ e1]at h1
   cases h2;exact aX (H.lt h1) (by omega)
  ·rw[aD _ _ e1]at h1;rw[aD _ _ e2]at h2;exact H.inj r1 r2 b' h1 h2
 ·by_cases e1:r'=r
  ·subst e1;rw[bq]at ff
   cases ff;rw[bq,bq];exact⟨jm H.tL h0,hl⟩
  ·rw[aD _ _ e1]at ff;rw[aD _ _ e1,aD _ _ e1];exact H'.lies _ _ ff
 ·have e1:r'≠r:=fun e=>by rw[e,bq]at hT;cases hT
  rw[aD _ _ e1]at hT ⊢;exact H.none_ r' hT
theorem cN.put(H:cN lo w0 w aV ty cap c){r:κ}{b cp:Nat}{xs:List Value}(h0:lo≤b)(cM:∀k b',aV k=some b'→b'≠b)(hl:gl w b (ty r) cp xs):cN lo w0 w (up aV r (some b)) ty (up cap r cp) (up c r xs):=by
 refine⟨H.below,H.tL,fun r1 r2 b' h1 h2=>?_,fun r' b' ff=>?_,fun r' hT=>?_⟩
 ·by_cases e1:r1=r<;>by_cases e2:r2=r
  ·rw[e1,e2]
  ·subst e1;rw[bq]at h1;rw[aD _ _ e2]at h2
   cases h1;exact aX rfl (cM _ _ h2)
  ·subst e2;rw[bq]at h2;rw[aD _ _ e1]at h1
   cases h2;exact aX rfl (cM _ _ h1)
  ·rw[aD _ _ e1]at h1;rw[aD _ _ e2]at h2;exact H.inj r1 r2 b' h1 h2
 ·by_cases e1:r'=r
  ·subst e1;rw[bq]at ff
   cases ff;rw[bq,bq];exact⟨h0,hl⟩
  ·rw[aD _ _ e1]at ff;rw[aD _ _ e1,aD _ _ e1];exact H.lies _ _ ff
 ·have e1:r'≠r:=fun e=>by rw[e,bq]at hT;cases hT
  rw[aD _ _ e1]at hT ⊢;exact H.none_ r' hT
theorem cN.set(H:cN lo w0 w aV ty cap c){r:κ}{b j:Nat}{v:Value}(hb:aV r=some b):cN lo w0 (w.setCell ⟨b,j,none⟩ v) aV ty cap (up c r ((c r).set j v)):=by
 refine⟨H.below.setCell (H.lies r b hb).1 v,by simpa[World.setCell]using H.tL,H.inj,fun r' b' ff=>?_,fun r' hT=>?_⟩
 ·by_cases e1:r'=r
  ·subst e1;obtain rfl:b'=b:=by rw[hb]at ff;exact(mx ff).symm
   rw[bq];exact⟨(H.lies _ _ hb).1,(H.lies _ _ hb).2.set j v⟩
  ·rw[aD _ _ e1];exact⟨(H.lies _ _ ff).1,(H.lies _ _ ff).2.other (fQ _ _ _ _ (fun e=>e1 (H.inj r' r _ ff (by rw[hb,e]))))⟩
 ·have e1:r'≠r:=fun e=>by rw[e,hb]at hT;cases hT
  rw[aD _ _ e1];exact H.none_ r' hT
end
theorem cN.join{κ κ':Type}{lo:Nat}{w0 w w':World}{aV:κ→Option Nat}{ty:κ→Option (Nat×Nat)}{cap:κ→Nat}{c:κ→List Value}{tM:κ'→Option Nat}{YO:κ'→Option (Nat×Nat)}{pF:κ'→Nat}{c':κ'→List Value}(H:cN lo w0 w aV ty cap c)(H':cN w.heap.size w w' tM YO pF c'):cN lo w0 w' (Sum.elim aV tM) (Sum.elim ty YO) (Sum.elim cap pF) (Sum.elim c c'):=by
 have H2:=H.eC H'.below;refine⟨H2.below,H2.tL,fun k k' b h1 h2=>?_,fun k b h=>?_,fun k h=>?_⟩
 ·cases k<;>cases k'<;>simp only[Sum.elim_inl,Sum.elim_inr]at h1 h2
  ·rw[H.inj _ _ b h1 h2]
  ·exact aX (H.lt h1) (by have:=(H'.lies _ _ h2).1;omega)
  ·exact aX (H.lt h2) (by have:=(H'.lies _ _ h1).1;omega)
  ·rw[H'.inj _ _ b h1 h2]
 ·cases k
  ·exact H2.lies _ _ h
  ·exact⟨jm H.tL (H'.lies _ _ h).1,(H'.lies _ _ h).2⟩
 ·cases k
  ·exact H.none_ _ h
  ·exact H'.none_ _ h
theorem cN.map{κ κ':Type}{lo:Nat}{w0 w:World}{aV:κ→Option Nat}{ty:κ→Option (Nat×Nat)}{cap:κ→Nat}{c:κ→List Value}(H:cN lo w0 w aV ty cap c)(φ:κ'→κ)(hφ:∀a b,φ a=φ b→a=b):cN lo w0 w (fun k=>aV (φ k)) (fun k=>ty (φ k)) (fun k=>cap (φ k)) (fun k=>c (φ k)):=
 ⟨H.below,H.tL,fun k k' b h1 h2=>hφ _ _ (H.inj _ _ b h1 h2),fun k b h=>H.lies _ b h,fun k h=>H.none_ _ h⟩
theorem cN.less{κ:Type}{lo:Nat}{w0 w:World}{aV:κ→Option Nat}{ty YO:κ→Option (Nat×Nat)}{cap:κ→Nat}{c:κ→List Value}(H:cN lo w0 w aV ty cap c)(h:∀k p,YO k=some p→ty k=some p):cN lo w0 w aV YO cap c:=
 ⟨H.below,H.tL,H.inj,fun k b hb=>by obtain⟨h1,arr,t,h2,h3,h4,h5⟩:=H.lies k b hb;exact⟨h1,arr,t,h2,h3,h4,fun p hp=>h5 p (h k p hp)⟩,H.none_⟩
def pW(z:Int):Prop:= -9223372036854775808≤z∧z≤9223372036854775807
def gW(w:World)(ao:Option Addr)(cs:List Case):Prop:=
 cs.length≤9223372036854775807∧∀(k:Nat) c,cs[k]?=some c→∃b off,ao=some ⟨b,off,none⟩∧
  w.cell? ⟨b,off+k*3,none⟩=some (B c.cF)∧w.cell? ⟨b,off+k*3+1,none⟩=some (I c.ch)∧w.cell? ⟨b,off+k*3+2,none⟩=some (I c.v)∧pW c.ch∧pW c.v
def kC(w:World)(ao:Option Addr)(os:List cu):Prop:=
 os.length≤9223372036854775807∧∀(j:Nat) o,os[j]?=some o→∃b off x cx,ao=some ⟨b,off,none⟩∧
  w.cell? ⟨b,off+j*6,none⟩=some (I o.ai)∧w.cell? ⟨b,off+j*6+1,none⟩=some (I o.ch)∧w.cell? ⟨b,off+j*6+2,none⟩=some (I o.n)∧w.cell? ⟨b,off+j*6+3,none⟩=some (I o.v)∧
  w.cell? ⟨b,off+j*6+4,none⟩=some (.slice x o.cases.length cx)∧w.cell? ⟨b,off+j*6+5,none⟩=some (B o.dG)∧gW w x o.cases∧pW o.ai∧pW o.ch∧pW o.n∧pW o.v
def eW(w:World)(ao:Option Addr)(p:List (List cu)):Prop:=
 p.length≤9223372036854775807∧∀(i:Nat) os,p[i]?=some os→∃b off r c,ao=some ⟨b,off,none⟩∧w.cell? ⟨b,off+i,none⟩=some (.slice r os.length c)∧kC w r os
theorem gW.fU{w w':World}{ao:Option Addr}{cs:List Case}(h:gW w ao cs)(hc:∀a v,w.cell? a=some v→w'.cell? a=some v):gW w' ao cs:=
 ⟨h.1,fun k c hk=>by obtain⟨b,off,e,h0,h1,h2,h3⟩:=h.2 k c hk;exact⟨b,off,e,hc _ _ h0,hc _ _ h1,hc _ _ h2,h3⟩⟩
theorem kC.fU{w w':World}{ao:Option Addr}{os:List cu}(h:kC w ao os)(hc:∀a v,w.cell? a=some v→w'.cell? a=some v):kC w' ao os:=
 ⟨h.1,fun j o hj=>by obtain⟨b,off,x,cx,e,h0,h1,h2,h3,h4,h5,h6,h7⟩:=h.2 j o hj;exact⟨b,off,x,cx,e,hc _ _ h0,hc _ _ h1,hc _ _ h2,hc _ _ h3,hc _ _ h4,hc _ _ h5,h6.fU hc,h7⟩⟩
theorem eW.fU{w w':World}{ao:Option Addr}{p:List (List cu)}(h:eW w ao p)(hc:∀a v,w.cell? a=some v→w'.cell? a=some v):eW w' ao p:=
 ⟨h.1,fun i os hi=>by obtain⟨b,off,r,c,e,h1,h2⟩:=h.2 i os hi;exact⟨b,off,r,c,e,hc _ _ h1,h2.fU hc⟩⟩
theorem cw{w w':World}{B:Nat}(hb:Below B w w')(hB:w.heap.size≤B)(a:Addr)(v:Value)(hv:w.cell? a=some v):w'.cell? a=some v:=by
 rw[hb.cell (by have:=xo w a hv;omega)];exact hv
theorem gW.below{w w':World}{B:Nat}{ao:Option Addr}{cs:List Case}(h:gW w ao cs)(hb:Below B w w')(hB:w.heap.size≤B):gW w' ao cs:=h.fU (cw hb hB)
theorem kC.below{w w':World}{B:Nat}{ao:Option Addr}{os:List cu}(h:kC w ao os)(hb:Below B w w')(hB:w.heap.size≤B):kC w' ao os:=h.fU (cw hb hB)
theorem eW.below{w w':World}{B:Nat}{ao:Option Addr}{p:List (List cu)}(h:eW w ao p)(hb:Below B w w')(hB:w.heap.size≤B):eW w' ao p:=h.fU (cw hb hB)
def il(k:Int):Bool:=decide (2≤k)&&decide (k≤8)
def kD(k:Int):Bool:=decide (k=2)||decide (k=4)
def qg(c:Case):Bool:=decide (0≤c.ch)&&decide (c.ch≤8)&&decide (0≤c.v)&&decide (c.v≤255)&&(c.cF||decide (c.v=0))
def yF(o:cu):Bool:=
 decide (1≤o.ai)&&decide (o.ai≤9)&&decide (0≤o.ch)&&decide (o.ch≤8)&&decide (0≤o.n)&&decide (o.n≤4)&&decide (0≤o.v)&&decide (o.v≤255)&&decide (o.cases.length≤6) &&
 (il o.ai||decide (o.ch=0))&&(kD o.ai||decide (o.v=0))&&(decide (o.ai=1)||decide (o.n=0))&&(decide (o.ai=9)||(!o.dG&&decide (o.cases.length=0)))&&o.cases.all qg
def im(p:List (List cu)):Bool:=p.all (fun l=>l.all yF&&decide (l.length≤16))&&decide (1≤p.length)&&decide (p.length≤8)
theorem tN{P:Program}{o:Oper}{a:Act}{w:World}{K:Act→World→Prop}{Q:Exit→Act→World→Prop}(s x:Operand)(t:TypeId)(ho:o.op=.call {callee:=.builtin .append,args:=#[s,x],argTypes:=#[t,t]}){e:TypeId}{i:TypeInfo}{z:Value}{size bytes:Nat}(ht:P.underlying t=some (.slice e))(hi:P.info? e=some i)(hz:i.zero=some z)(hsize:i.size=size)(hby:i.bytes=bytes)(hzs:z.cells.size=size)(hsz:0<size)(hbb:bytes≤200)(hs:a.eval s=.slice none 0 0)(ao:Option Addr)(n c:Nat)(hx:a.eval x=.slice ao n c)(cs:List Value)(hl:cs.length=n*size)(hc:0<n→∃b off,ao=some ⟨b,off,none⟩∧∀j u,cs[j]?=some u→w.cell? ⟨b,off+j,none⟩=some u)(h1:∀u∈cs,u.oneCell'=true)(hn:n<1000001)(h:∀hb cap w',w.grownBy w' none→(hb=none∧n=0∧cap=0∨hb=some ⟨w.heap.size,0,none⟩∧w'.ownsRow w.heap.size e size (.slice (some ⟨w.heap.size,0,none⟩) n cap) n cs)→K (a.put o.dst (.slice hb n cap)) w'):o.wp P a w K Q:=by
 rcases Nat.eq_zero_or_pos n with h0|h0
 ·subst h0;exact yw s x t ho ht hi hs ao c hx (h none 0 w (World.grownBy.refl _ _) (.inl ⟨rfl,rfl,rfl⟩))
 ·obtain⟨b,off,rfl,Ek⟩:=hc h0;exact EF s x t ho ht hi hz hsize hby hzs hsz hbb hs b off n c hx cs hl Ek h1 h0 hn fun cap w' h2 h3=>h _ cap w' h3 (.inr ⟨rfl,h2⟩)
theorem gu{P:Program}{ops:Array Oper}{rest:List Oper}{o:Oper}{a:Act}{w:World}{Q:Exit→Act→World→Prop}(nX:o.guard=none)(s x:Operand)(t:TypeId)(ho:o.op=.call {callee:=.builtin .append,args:=#[s,x],argTypes:=#[t,t]}){e:TypeId}{i:TypeInfo}{z:Value}{size bytes:Nat}(ht:P.underlying t=some (.slice e))(hi:P.info? e=some i)(hz:i.zero=some z)(hsize:i.size=size)(hby:i.bytes=bytes)(hzs:z.cells.size=size)(hsz:0<size)(hbb:bytes≤200)(hs:a.eval s=.slice none 0 0)(ao:Option Addr)(n c:Nat)(hx:a.eval x=.slice ao n c)(cs:List Value)(hl:cs.length=n*size)(hc:0<n→∃b off,ao=some ⟨b,off,none⟩∧∀j u,cs[j]?=some u→w.cell? ⟨b,off+j,none⟩=some u)(h1:∀u∈cs,u.oneCell'=true)(hn:n<1000001)(h:∀hb cap w',w.grownBy w' none→(hb=none∧n=0∧cap=0∨hb=some ⟨w.heap.size,0,none⟩∧w'.ownsRow w.heap.size e size (.slice (some ⟨w.heap.size,0,none⟩) n cap) n cs)→wpList P ops Q rest (a.put o.dst (.slice hb n cap)) w'):wpList P ops Q (o::rest) a w:=
 wpList_plain nX fun _ hK=>tN s x t ho ht hi hz hsize hby hzs hsz hbb hs ao n c hx cs hl hc h1 hn fun hb cap w' h2 h3=>hK _ _ (h hb cap w' h2 h3)
theorem od{P:Program}{ops:Array Oper}{rest:List Oper}{o:Oper}{a:Act}{Q:Exit→Act→World→Prop}(nX:o.guard=none)(s x:Operand)(t:TypeId)(ho:o.op=.call {callee:=.builtin .append,args:=#[s,x],argTypes:=#[t,t]}){af:Nat}{e:TypeId}{i:TypeInfo}{z:Value}{size bytes:Nat}(ht:P.underlying t=some (.slice e))(hi:P.info? e=some i)(hz:i.zero=some z)(hsize:i.size=size)(hby:i.bytes=bytes)(hzs:z.cells.size=size)(hsz:0<size)(hbb:bytes≤200){w2 W3:World}{us:Array Value}(hW:W3.heap=(w2.alloc (.cells us e)).heap)(hus:us.size=size)(h1:∀u∈us.toList,u.oneCell'=true)(v:Value)(n:Nat)(xs:List Value)(hs:a.eval s=v)(hown:w2.ownsRow af e size v n xs)(q:Nat)(hq:q=w2.heap.size)(hx:a.eval x=.slice (some ⟨q,0,none⟩) 1 1)(hn:n<1000001)(hbase:af≤w2.heap.size)(h:∀g cap w',w'.ownsRow af e size (.slice (some ⟨g,0,none⟩) (n+1) cap) (n+1) (xs++us.toList)→W3.grownBy w' v.ownBlock→(v.ownBlock=some g∨W3.heap.size≤g)→wpList P ops Q rest (a.put o.dst (.slice (some ⟨g,0,none⟩) (n+1) cap)) w'):wpList P ops Q (o::rest) a W3:=by
 subst hq;exact jw nX s x t ho ht hi hz hsize hby hzs hsz hbb hW hus h1 v n xs hs hown hx hn hbase h
theorem gW.cells{w:World}{ao:Option Addr}{cs:List Case}(h:gW w ao cs)(h0:0<cs.length):∃b off,ao=some ⟨b,off,none⟩∧∀j u,(bT fT 0 cs)[j]?=some u→w.cell? ⟨b,off+j,none⟩=some u:=by
 obtain⟨b,off,e,_⟩:=h.2 0 _ (fv h0);refine⟨b,off,e,fun j u hu=>?_⟩;have hj:j<cs.length*3:=by have:=cA hu;rwa [dX (f:=fT) (k:=3) (fun _ _=>rfl)]at this
 have hq:j / 3<cs.length:=by omega
 have h1:=fq (f:=fT) (k:=3) (fun _ _=>rfl) cs 0 (j / 3) (j % 3) _ (fv hq) (by omega);rw[show j / 3*3+j % 3=j by omega,hu]at h1;obtain⟨b',VK,e',a1,a2,a3,_⟩:=h.2 (j / 3) _ (fv hq);rw[e]at e';cases e';have h3:j % 3=0∨j % 3=1∨j % 3=2:=by omega
 rcases h3 with h3|h3|h3<;>rw[h3]at h1<;>simp[fT]at h1<;>subst h1
 ·rw[show off+j=off+j / 3*3 by omega];exact a1
 ·rw[show off+j=off+j / 3*3+1 by omega];exact a2
 ·rw[show off+j=off+j / 3*3+2 by omega];exact a3
abbrev CK:=Option bH
def Nl:CK→Option (Nat×Nat)|none=>some (50,1)|some (.ops _)=>some (49,6)|_=>none
def J6(aV:CK→Option Nat)(cap:CK→Nat)(i q:Nat)(o:cu):List Value:=[I o.ai,I o.ch,I o.n,I o.v,nG (aV (some (.cases i q))) o.cases.length (cap (some (.cases i q))),B o.dG]
structure fY(lo:Nat)(w0 w:World)(p:List (List cu))(j k:Nat)(aV:CK→Option Nat)(cap:CK→Nat)(c:CK→List Value):Prop where
 own:cN lo w0 w aV Nl cap c
 out:c none=(List.range j).map fun i=>nG (aV (some (.ops i))) (p.getD i []).length (cap (some (.ops i)))
 rows:∀i,i<j→c (some (.ops i))=bT (J6 aV cap i) 0 (p.getD i [])
 row:c (some (.ops j))=bT (J6 aV cap j) 0 ((p.getD j []).take k)
 rU:∀i q o,(i<j∨i=j∧q<k)→(p.getD i [])[q]?=some o→c (some (.cases i q))=bT fT 0 o.cases
 more:∀i,j<i→aV (some (.ops i))=none
 J7:∀i q,¬(i<j∨i=j∧q<k)→aV (some (.cases i q))=none
 YP:k=0→aV (some (.ops j))=none
 less:∀i (q:Nat),(p.getD i [])[q]?=none→aV (some (.cases i q))=none
section
variable{lo:Nat}{w0 w w':World}{p:List (List cu)}{j k:Nat}{aV:CK→Option Nat}{cap:CK→Nat}{c:CK→List Value}
theorem gX{α:Type}{f f':Nat→α→List Value}(l:List α)(h:∀j x,l[j]?=some x→f j x=f' j x):bT f 0 l=bT f' 0 l:=iI l 0 (fun j x hx=>by rw[Nat.zero_add];exact h j x hx)
theorem fm{α:Type}{l:List α}{i:Nat}{x:α}(h:l[i]?=some x):i<l.length:=cA h
theorem ox{α:Type}{l:List α}{k:Nat}{o:α}(h:l[k]?=some o):l.take (k+1)=l.take k++[o]:=by
 obtain⟨hk,e⟩:=uC h;rw[List.take_succ_eq_append_getElem hk,e]
theorem fY.op(H:fY lo w0 w p j k aV cap c){o:cu}(ho:(p.getD j [])[k]?=some o){hb:Option Nat}{hc:Nat}{w2 w3:World}(CM:Below w.heap.size w w2)(fa:hb=none∧o.cases=[]∨∃b,hb=some b∧w.heap.size≤b∧gl w2 b none hc (bT fT 0 o.cases)){g cp:Nat}(hg:w2.grownBy w3 (aV (some (.ops j))))(bE:aV (some (.ops j))=some g∨w2.heap.size≤g)(hown:w3.ownsRow lo 49 6 (.slice (some ⟨g,0,none⟩) (k+1) cp) (k+1) (c (some (.ops j))++[I o.ai,I o.ch,I o.n,I o.v,nG hb o.cases.length hc,B o.dG])):∃tM pF c',fY lo w0 w3 p j (k+1) tM pF c'∧tM (some (.ops j))=some g∧pF (some (.ops j))=cp∧tM none=aV none∧pF none=cap none:=by
 have VL:aV (some (.cases j k))=none:=H.J7 j k (by omega)
 have O1:cN lo w0 w2 (up aV (some (.cases j k)) hb) Nl (up cap (some (.cases j k)) hc) (up c (some (.cases j k)) (bT fT 0 o.cases)):=by
  rcases fa with⟨rfl,fa⟩|⟨b,rfl,h1,h2⟩
  ·have O:=H.own.eC CM
   have e1:up aV (some (.cases j k)) none=aV:=by
    funext k';by_cases e:k'=some (.cases j k)
    ·rw[e,bq,VL]
    ·rw[aD _ _ e]
   have e2:up c (some (.cases j k)) (bT fT 0 o.cases)=c:=by
    funext k';by_cases e:k'=some (.cases j k)
    ·rw[e,bq,fa,O.none_ _ VL];rfl
    ·rw[aD _ _ e]
   rw[e1,e2];exact⟨O.below,O.tL,O.inj,fun k' b h=>by rw[aD _ _ (fun e=>by rw[e,VL]at h;cases h)];exact O.lies k' b h,O.none_⟩
  ·exact H.own.add CM h1 (by exact h2)
 have jg:(up aV (some (.cases j k)) hb) (some (.ops j))=aV (some (.ops j)):=aD _ _ (by simp);have O2:=O1.row (r:=some (.ops j)) (p:=(49,6)) (g:=g) (n:=k+1) (cp:=cp) (by intro q hq;simp[Nl]at hq;exact hq.symm) (by rw[jg];exact hg) hown (by rw[jg];exact bE);have hB:∀i q,¬(i=j∧q=k)→up (up aV (some (.cases j k)) hb) (some (.ops j)) (some g) (some (.cases i q))=aV (some (.cases i q)):=fun i q h=>by rw[aD _ _ (by simp),aD _ _ (by simpa using h)]
 have hC:∀i q,¬(i=j∧q=k)→up (up cap (some (.cases j k)) hc) (some (.ops j)) cp (some (.cases i q))=cap (some (.cases i q)):=fun i q h=>by rw[aD _ _ (by simp),aD _ _ (by simpa using h)]
 have G5:∀i,i≠j→up (up aV (some (.cases j k)) hb) (some (.ops j)) (some g) (some (.ops i))=aV (some (.ops i)):=fun i h=>by rw[aD _ _ (by simpa using h),aD _ _ (by simp)]
 have YQ:∀i,i≠j→up (up cap (some (.cases j k)) hc) (some (.ops j)) cp (some (.ops i))=cap (some (.ops i)):=fun i h=>by rw[aD _ _ (by simpa using h),aD _ _ (by simp)]
 refine⟨_,_,_,⟨O2,?_,?_,?_,?_,?_,?_,fun h=>by omega,fun i q h=>?_⟩,bq _ _ _,bq _ _ _,?_,?_⟩
 ·rw[aD _ _ (by simp),aD _ _ (by simp),H.out];apply List.map_congr_left;intro i hi;have:=List.mem_range.1 hi;rw[G5 i (by omega),YQ i (by omega)]
 ·intro i hi;rw[aD _ _ (by simp;omega),aD _ _ (by simp),H.rows i hi];refine gX _ fun q o' _=>?_
  unfold J6;rw[hB i q (by omega),hC i q (by omega)]
 ·rw[bq,ox ho,ni,H.row];have vA:=fm ho;congr 1
  ·refine gX _ fun q o' hq=>?_
   have:=fm hq;simp at this;unfold J6;rw[hB j q (by omega),hC j q (by omega)]
  ·rw[show 0+((p.getD j []).take k).length=k by rw[tC];omega];simp only[bT,J6,List.append_nil];rw[aD _ _ (by simp),bq,aD _ _ (by simp),bq]
 ·intro i q o' h Xz;by_cases e:i=j∧q=k
  ·obtain⟨rfl,rfl⟩:=e;rw[ho]at Xz;cases Xz;rw[aD _ _ (by simp),bq]
  ·rw[aD _ _ (by simp),aD _ _ (by simpa using e)];exact H.rU i q o' (by omega) Xz
 ·intro i hi;rw[G5 i (by omega)];exact H.more i hi
 ·intro i q h;rw[hB i q (by omega)];exact H.J7 i q (by omega)
 ·by_cases e:i=j∧q=k
  ·obtain⟨rfl,rfl⟩:=e;rw[ho]at h;cases h
  ·rw[hB i q e];exact H.less i q h
 ·rw[aD _ _ (by simp),aD _ _ (by simp)]
 ·rw[aD _ _ (by simp),aD _ _ (by simp)]
theorem fY.next(H:fY lo w0 w p j k aV cap c)(hj:(p.getD j []).length=k){g cp:Nat}{w2:World}(hB:w.grownBy w2 (aV none))(bE:aV none=some g∨w.heap.size≤g)(hown:w2.ownsRow lo 50 1 (.slice (some ⟨g,0,none⟩) (j+1) cp) (j+1) (c none++[nG (aV (some (.ops j))) k (cap (some (.ops j)))])):∃tM pF c',fY lo w0 w2 p (j+1) 0 tM pF c'∧tM none=some g∧pF none=cp:=by
 have O:=H.own.row (r:=none) (p:=(50,1)) (g:=g) (n:=j+1) (cp:=cp) (by intro q hq;simp[Nl]at hq;exact hq.symm) hB hown bE;have hS:∀r:bH,up aV none (some g) (some r)=aV (some r):=fun r=>aD _ _ (by simp)
 have Sm:∀r:bH,up cap none cp (some r)=cap (some r):=fun r=>aD _ _ (by simp)
 have hS3:∀(r:bH) xs,up c none xs (some r)=c (some r):=fun r xs=>aD _ _ (by simp)
 refine⟨_,_,_,⟨O,?_,?_,?_,?_,?_,?_,?_,fun i q h=>by rw[hS];exact H.less i q h⟩,bq _ _ _,bq _ _ _⟩
 ·rw[bq,H.out,List.range_succ,List.map_append];simp only[hS,Sm,List.map_cons,List.map_nil,hj]
 ·intro i hi;rw[hS3];by_cases e:i=j
  ·subst e;rw[H.row,←hj,List.take_length];refine gX _ fun q o' _=>?_
   unfold J6;rw[hS,Sm]
  ·rw[H.rows i (by omega)];refine gX _ fun q o' _=>?_
   unfold J6;rw[hS,Sm]
 ·rw[hS3,sX];exact H.own.none_ _ (H.more _ (by omega))
 ·intro i q o' h Xz;rw[hS3];have:=fm Xz;refine H.rU i q o' ?_ Xz;by_cases e:i=j
  ·subst e;omega
  ·omega
 ·intro i hi;rw[hS];exact H.more i (by omega)
 ·intro i q h;rw[hS];exact H.J7 i q (by omega)
 ·intro _;rw[hS];exact H.more _ (by omega)
end
end Go.Proofs.YtadifmnmfnihdaaGreat
namespace Go.Proofs.YtadifmnmfnihdaaGreat
open Go.RowKit Mach Go.Proofs.Tryz
theorem EM{P:Program}{o:Oper}{a:Act}{K:Act→World→Prop}{Q:Exit→Act→World→Prop}(s x:Operand)(t:TypeId)(ho:o.op=.call {callee:=.builtin .append,args:=#[s,x],argTypes:=#[t,t]}){af:Nat}{e:TypeId}{i:TypeInfo}{z:Value}{size bytes:Nat}(ht:P.underlying t=some (.slice e))(hi:P.info? e=some i)(hz:i.zero=some z)(hsize:i.size=size)(hby:i.bytes=bytes)(hzs:z.cells.size=size)(hsz:0<size)(hbb:bytes≤1000){w2 W3:World}{us:Array Value}(hW:W3.heap=(w2.alloc (.cells us e)).heap)(hus:us.size=size)(h1:∀u∈us.toList,u.oneCell'=true)(v:Value)(n:Nat)(xs:List Value)(hs:a.eval s=v)(hown:w2.ownsRow af e size v n xs)(hx:a.eval x=.slice (some ⟨w2.heap.size,0,none⟩) 1 1)(hn:n<1000001)(hbase:af≤w2.heap.size)(h:∀g cap w',w'.ownsRow af e size (.slice (some ⟨g,0,none⟩) (n+1) cap) (n+1) (xs++us.toList)→W3.grownBy w' v.ownBlock→(v.ownBlock=some g∨W3.heap.size≤g)→K (a.put o.dst (.slice (some ⟨g,0,none⟩) (n+1) cap)) w'):o.wp P a W3 K Q:=by
 have Vu:W3.heap.size=w2.heap.size+1:=by rw[hW];simp
 have hm:(n+1)*bytes≤140737488355328:=by have:=Nat.mul_le_mul (show n+1≤1000001 by omega) hbb;omega
 refine wp_append_lies W3 s x t ho af e i z size bytes ht hi hz hsize hby hzs hsz v n xs hs (ou hown hW) ⟨w2.heap.size,0,none⟩ 1 1 us.toList hx (by simpa using hus) (Bx hW) h1 (by omega) (by unfold maxLen;omega) hm (by omega) _ rfl ?_;intro g cap w' ho hg hw hl;exact h g cap w' ho hg (by rcases hw with hw|hw;exact .inl hw;right;omega)
theorem gY{P:Program}{ops:Array Oper}{rest:List Oper}{o:Oper}{a:Act}{Q:Exit→Act→World→Prop}(nX:o.guard=none)(s x:Operand)(t:TypeId)(ho:o.op=.call {callee:=.builtin .append,args:=#[s,x],argTypes:=#[t,t]}){af:Nat}{e:TypeId}{i:TypeInfo}{z:Value}{size bytes:Nat}(ht:P.underlying t=some (.slice e))(hi:P.info? e=some i)(hz:i.zero=some z)(hsize:i.size=size)(hby:i.bytes=bytes)(hzs:z.cells.size=size)(hsz:0<size)(hbb:bytes≤1000){w2 W3:World}{us:Array Value}(hW:W3.heap=(w2.alloc (.cells us e)).heap)(hus:us.size=size)(h1:∀u∈us.toList,u.oneCell'=true)(v:Value)(n:Nat)(xs:List Value)(hs:a.eval s=v)(hown:w2.ownsRow af e size v n xs)(q:Nat)(hq:q=w2.heap.size)(hx:a.eval x=.slice (some ⟨q,0,none⟩) 1 1)(hn:n<1000001)(hbase:af≤w2.heap.size)(h:∀g cap w',w'.ownsRow af e size (.slice (some ⟨g,0,none⟩) (n+1) cap) (n+1) (xs++us.toList)→W3.grownBy w' v.ownBlock→(v.ownBlock=some g∨W3.heap.size≤g)→wpList P ops Q rest (a.put o.dst (.slice (some ⟨g,0,none⟩) (n+1) cap)) w'):wpList P ops Q (o::rest) a W3:=by
 subst hq;exact wpList_plain nX fun _ hK=>EM s x t ho ht hi hz hsize hby hzs hsz hbb hW hus h1 v n xs hs hown hx hn hbase fun g cap w' h2 h3 h4=>hK _ _ (h g cap w' h2 h3 h4)
theorem uS:(prog.info? 100).map (fun i=>(i.zero,i.size,i.bytes))=some (some (.agg #[.slice none 0 0,I 0,I 0,I 0,B false,I 0,B false,I 0,I 0,I 0,I 0,I 0,I 0,I 0,I 0,I 0,I 0,I 0,B false,I 0,.slice none 0 0,.slice none 0 0,.slice none 0 0,.slice none 0 0,I 0]),25,280):=by kernel_rfl
def oX(h:Value):List Value:=[h,I 0,I 0,I 0,B false,I 0,B false,I (-1),I (-1),I (-1),I 0,I 0,I 0,I (-1),I (-1),I 0,I (-1),I 0,B false,I 0,.slice none 0 0,.slice none 0 0,.slice none 0 0,.slice none 0 0,I 0]
def AG(h:Value):List Value:=[h,I 0,I 0,I 0,B false,I 0,B false,I 0,I 0,I 0,I 0,I 0,I 0,I 0,I 0,I 0,I 0,I 0,B false,I 0,.slice none 0 0,.slice none 0 0,.slice none 0 0,.slice none 0 0,I 0]
theorem Lt(wb gb g n c:Nat)(a:Option Addr)(l ca:Nat)(w:World)(hg:g<n)(hn:n≤100)(c3:w.cell? ⟨wb,3,none⟩=some (.slice (some ⟨gb,0,none⟩) n c))(hc:∀j v,(AG (.slice a l ca))[j]?=some v→w.cell? ⟨gb,g*25+j,none⟩=some v)(hf:∀j,w.frozen? ⟨gb,j,none⟩=false):Calls prog 84 #[.pointer (some ⟨wb,0,none⟩),I g] w (ee fun w'=>w'=w.drew.setCells gb (g*25) (oX (.slice a l ca))):=by
 have g0:=hc 0 _ rfl;have g1:=hc 1 _ rfl;have g2:=hc 2 _ rfl;have g3:=hc 3 _ rfl;have g4:=hc 4 _ rfl;rw[Nat.add_zero]at g0;have HC:Hid (∀j,j<25→(w.cell? ⟨gb,g*25+j,none⟩).isSome=true):=fun j hj=>by obtain⟨v,hv⟩:∃v,(AG (.slice a l ca))[j]?=some v:=⟨_,fv (by simpa[AG]using hj)⟩;rw[hc j v hv];rfl
 have HF:Hid (∀j,w.frozen? ⟨gb,j,none⟩=false):=hf;obtain⟨w2,nt⟩:=dC (w.drew);have Rr:=ag nt;clear nt hc hf;go_enter func84,ntmps84;go_wp2;go_still_tail 24,(by kernel_rfl);change wpList _ _ _ _ _ w.drew;rw[←Rr.out];have Rs:Hid (∀j,j<25→(w2.cell? ⟨gb,g*25+j,none⟩).isSome=true):=by rw[Rr.out];exact HC.out
 have Rt:Hid (∀j,w2.frozen? ⟨gb,j,none⟩=false):=by rw[Rr.out];exact HF.out
 clear HC HF g0 g1 g2 g3 g4 c3;refine cB rfl 100 (.tmp 34) (.tmp 33) rfl gb (g*25) _ rfl rfl (by kernel_rfl) (fun j hj=>Rs.out j hj) (fun j hj=>Rt.out _) (by simp[Value.oneCell']) ?_;go_wp2;go_end0;refine⟨rfl,?_⟩;rw[←Rr.out];rfl
theorem N6(h:Value):(AG h).length=25:=rfl
theorem Lu(h:Value):(oX h).length=25:=rfl
def fe:List Value→Nat→List Value→List Value
 |cs,_,[]=>cs
 |cs,off,v::vs=>fe (cs.set off v) (off+1) vs
theorem yG:∀(new old A B:List Value),old.length=new.length→fe (A++old++B) A.length new=A++new++B
 | [],old,A,B,h=>by have:old=[]:=xn h;subst this;rfl
 |v::vs,[],A,B,h=>by simp at h
 |v::vs,o::os,A,B,h=>by
  rw[fe];have e:(A++o::os++B).set A.length v=(A++[v])++os++B:=by rw[List.append_assoc,List.set_append_right _ _ cG];simp
  rw[e,show A.length+1=(A++[v]).length by simp,yG vs os (A++[v]) B (by simpa using h)];simp
theorem cN.setCells{κ:Type}[DecidableEq κ]{lo:Nat}{w0:World}{aV:κ→Option Nat}{ty:κ→Option (Nat×Nat)}{cap:κ→Nat}{r:κ}{b:Nat}(hb:aV r=some b):∀(vs:List Value) (off:Nat) (w:World) (c:κ→List Value),cN lo w0 w aV ty cap c→cN lo w0 (w.setCells b off vs) aV ty cap (up c r (fe (c r) off vs))
 | [],off,w,c,H=>by
  have e:up c r (fe (c r) off [])=c:=by
   funext k;by_cases h:k=r
   ·subst h;rw[bq];rfl
   ·rw[aD _ _ h]
  rw[e];exact H
 |v::vs,off,w,c,H=>by
  have H1:=H.set (r:=r) (j:=off) (v:=v) hb;have H2:=cN.setCells hb vs (off+1) _ _ H1
  have e:up (up c r ((c r).set off v)) r (fe (up c r ((c r).set off v) r) (off+1) vs)=up c r (fe (c r) off (v::vs)):=by
   funext k;by_cases h:k=r
   ·subst h;rw[bq,bq,bq];rfl
   ·rw[aD _ _ h,aD _ _ h,aD _ _ h]
  rw[e]at H2;exact H2
structure rV{κ:Type}(lo:Nat)(w0 w:World)(p:List (List cu))(gs wk:κ)(H:Nat→List cu→Value)(wb:Nat)(Hz:κ→Option Nat)(TY:κ→Option (Nat×Nat))(Nn:κ→Nat)(C:κ→List Value)(j:Nat)(ga:Option Addr)(gc:Nat)(aV:κ→Option Nat)(cap:κ→Nat)(c:κ→List Value):Prop where
 own:cN lo w0 w aV TY cap c
 N7:∀k,k≠gs→aV k=Hz k∧cap k=Nn k
 Sn:∀k,k≠gs→k≠wk→c k=C k
 wk_:aV wk=some wb
 wc:c wk=(C wk).set 3 (.slice ga j gc)
 cU:Value.slice ga j gc=nG (aV gs) j (cap gs)
 row:c gs=bT (fun i l=>oX (H i l)) 0 (p.take j)
section
variable{κ:Type}[DecidableEq κ]{lo:Nat}{w0 w:World}{p:List (List cu)}{gs wk:κ}{H:Nat→List cu→Value}{wb:Nat}{Hz aV:κ→Option Nat}{TY:κ→Option (Nat×Nat)}{Nn cap:κ→Nat}{C c:κ→List Value}{j gc:Nat}{ga:Option Addr}
theorem rV.push(X:rV lo w0 w p gs wk H wb Hz TY Nn C j ga gc aV cap c)(cM:wk≠gs)(nI:TY gs=some (100,25)){l:List cu}{w2:World}{g cp:Nat}(hg:w.grownBy w2 (Value.slice ga j gc).ownBlock)(gp:(Value.slice ga j gc).ownBlock=some g∨w.heap.size≤g)(hown:w2.ownsRow lo 100 25 (.slice (some ⟨g,0,none⟩) (j+1) cp) (j+1) (c gs++AG (H j l))):∃c',cN lo w0 (w2.setCell ⟨wb,3,none⟩ (.slice (some ⟨g,0,none⟩) (j+1) cp)) (up aV gs (some g)) TY (up cap gs cp) c'∧(∀k,k≠gs→k≠wk→c' k=C k)∧c' wk=(C wk).set 3 (.slice (some ⟨g,0,none⟩) (j+1) cp)∧c' gs=bT (fun i l=>oX (H i l)) 0 (p.take j)++AG (H j l)∧(∀v,((C wk).set 3 (.slice ga j gc))[3]?=some v→w2.cell? ⟨wb,3,none⟩=some v)∧w2.frozen? ⟨wb,3,none⟩=false:=by
 have jz:(Value.slice ga j gc).ownBlock=aV gs:=by rw[X.cU,gV]
 rw[jz]at hg gp;have O:=X.own.row (r:=gs) (p:=(100,25)) (by intro q hq;rw[nI]at hq;exact(mx hq).symm) hg hown gp;have O2:=O.set (r:=wk) (b:=wb) (j:=3) (v:=.slice (some ⟨g,0,none⟩) (j+1) cp) (by rw[aD _ _ cM];exact X.wk_);refine⟨_,O2,fun k h1 h2=>?_,?_,?_,fun v hv=>?_,?_⟩
 ·rw[aD _ _ h2,aD _ _ h1];exact X.Sn k h1 h2
 ·rw[bq,aD _ _ cM,X.wc,my]
 ·rw[aD _ _ (dE cM),bq,X.row]
 ·exact O.cell (k:=wk) (by rw[aD _ _ cM];exact X.wk_) (by rw[aD _ _ cM,X.wc];exact hv)
 ·exact O.frozen (k:=wk) (by rw[aD _ _ cM];exact X.wk_) 3
theorem rV.clear{l:List cu}(hl:p[j]?=some l)(cM:wk≠gs)(J0:Hz wk=some wb)(qw:∀k,k≠gs→aV k=Hz k∧cap k=Nn k){g cp:Nat}{c':κ→List Value}(O:cN lo w0 w (up aV gs (some g)) TY (up cap gs cp) c')(h1:∀k,k≠gs→k≠wk→c' k=C k)(h2:c' wk=(C wk).set 3 (.slice (some ⟨g,0,none⟩) (j+1) cp))(h3:c' gs=bT (fun i l=>oX (H i l)) 0 (p.take j)++AG (H j l)):∃tM pF c'',rV lo w0 (w.drew.setCells g (j*25) (oX (H j l))) p gs wk H wb Hz TY Nn C (j+1) (some ⟨g,0,none⟩) cp tM pF c'':=by
 have vy:=fm hl;have O2:=cN.setCells (r:=gs) (b:=g) (bq _ _ _) (oX (H j l)) (j*25) _ _ O.drew;have cP:(bT (fun i l=>oX (H i l)) 0 (p.take j)).length=j*25:=by rw[dX (k:=25) (fun _ _=>rfl),tC,Nat.min_eq_left (by omega)]
 have e:fe (c' gs) (j*25) (oX (H j l))=bT (fun i l=>oX (H i l)) 0 (p.take (j+1)):=by
  rw[h3,ox hl,ni];generalize hA:bT (fun i l=>oX (H i l)) 0 (p.take j)=A at cP;have e2:bT (fun i l=>oX (H i l)) (0+(p.take j).length) [l]=oX (H j l):=by rw[show 0+(p.take j).length=j by rw[tC];omega];exact List.append_nil _
  rw[e2];have J8:(AG (H j l)).length=(oX (H j l)).length:=(N6 _).trans (Lu _).symm;generalize AG (H j l)=z at J8;generalize oX (H j l)=y at J8;have:=yG y z A [] J8;rw[List.append_nil,List.append_nil,cP]at this;exact this
 refine⟨_,_,_,⟨O2,fun k hk=>?_,fun k jg jO=>?_,?_,?_,?_,?_⟩⟩
 ·rw[aD _ _ hk,aD _ _ hk];exact qw k hk
 ·rw[aD _ _ jg];exact h1 k jg jO
 ·rw[aD _ _ cM,(qw wk cM).1];exact J0
 ·rw[aD _ _ cM];exact h2
 ·rw[bq,bq];rfl
 ·rw[bq];exact e
end
end Go.Proofs.YtadifmnmfnihdaaGreat
namespace Go.Proofs.YtadifmnmfnihdaaGreat
open Go.RowKit Go.Proofs.Tryz
def VM(B g c n m lo:Nat)(zs:List Int)(w:World)(e:Ending)(w':World):Prop:=
 e=.returned (.tuple #[])∧∃VN:List Int,yt m zs VN∧iP VN m lo∧w'.ownsRow B 3 1 (.slice (some ⟨g,0,none⟩) n c) n (VN.map (Value.int .i64))∧w.grownBy w' (some g)∧w'.heap.size=w.heap.size
structure qD(B g c n m lo:Nat)(zs:List Int)(w:World)(k:Nat)(zk:List Int)(wr:World):Prop where
 HJ:yt m zs zk
 hole:vF zk m lo k
 own:wr.ownsRow B 3 1 (.slice (some ⟨g,0,none⟩) n c) n (zk.map (Value.int .i64))
 grown:w.grownBy wr (some g)
 size:wr.heap.size=w.heap.size
theorem wV{u v w:World}{r:Option Nat}(h:u.grownBy v r)(k:v.grownBy w r):u.grownBy w r:=
 ⟨k.os.trans h.os,k.tape.trans h.tape,k.output.trans h.output,jm h.size k.size,fun i hi hr=>(k.block i (by have:=h.size;omega) hr).trans (h.block i hi hr)⟩
theorem rW{B g c n:Nat}{w:World}{zs:List Int}(h:w.ownsRow B 3 1 (.slice (some ⟨g,0,none⟩) n c) n (zs.map (Value.int .i64)))(j:Nat)(hj:j<n):w.cell? ⟨g,j,none⟩=some (.int .i64 (zs.getD j 0)):=by
 have hl:zs.length=n:=by have:=h.1;simpa using this
 rw[h.cellAt j (by omega)];simp[List.getD,hl,hj]
theorem qD.drewN{B g c n m lo k:Nat}{zs zk:List Int}{w wr:World}(h:qD B g c n m lo zs w k zk wr)(q:Nat):qD B g c n m lo zs w k zk (wr.drewN q):=
 ⟨h.HJ,h.hole,h.own,⟨h.grown.os,h.grown.tape,h.grown.output,h.grown.size,h.grown.block⟩,h.size⟩
theorem vR{B g c n m lo k d:Nat}{zs zk:List Int}{w wr:World}(h:qD B g c n m lo zs w k zk wr)(cP:zs.length=n)(hmn:m≤n)(hd:d=2*k+1∨d=2*k+2)(hdm:d<m)(ja:lo≤k)(Xu:zk.getD k 0≤zk.getD d 0)(Vt:∀d',d'<m→(d'=2*k+1∨d'=2*k+2)→zk.getD d' 0≤zk.getD d 0)(q:Nat):qD B g c n m lo zs w d (iO zk k d) (((wr.setCell ⟨g,k,none⟩ (.int .i64 (zk.getD d 0))).setCell ⟨g,d,none⟩ (.int .i64 (zk.getD k 0))).drewN q):=by
 have hl:=h.HJ.len;have h1:=(h.own.stored k (.int .i64 (zk.getD d 0)));have h2:=(h1.1.stored d (.int .i64 (zk.getD k 0)));refine⟨h.HJ.trans (.swap (by omega) hdm (by omega)),K7 h.hole (by omega) hd hdm ja Xu Vt,uJ h.own rfl rfl,wV h.grown (wV h1.2 ⟨h2.2.os,h2.2.tape,h2.2.output,h2.2.size,h2.2.block⟩),?_⟩;show((wr.setCell _ _).setCell _ _).heap.size=_;rw[←h.size];simp[World.setCell]
theorem EN(B g c n m lo c':Nat)(zs:List Int)(w:World)(hmn:m≤n)(hn:n≤1000)(ja:lo≤m)(cP:zs.length=n)(hh:iP zs m (lo+1))(hown:w.ownsRow B 3 1 (.slice (some ⟨g,0,none⟩) n c) n (zs.map (Value.int .i64))):Calls prog 220 #[.slice (some ⟨g,0,none⟩) m c',.int .i64 lo] w (VM B g c n m lo zs w):=by
 have HR:qD B g c n m lo zs w lo zs w:=⟨.refl _ _,Hh hh,hown,World.grownBy.refl _ _,rfl⟩;have HRH:=ag HR;have qz:=ag cP;clear HR hh hown cP;go_enter func220,ntmps220;go_wp2;go_loopw [1,4] (fun a _ wr=>∃(k:Nat) (zk:List Int),lo≤k∧k≤m∧a=.int .i64 k∧Hid (qD B g c n m lo zs w k zk wr)) (fun a _ _=>m-(intOf a).toNat)
 case atStart=>exact⟨lo,zs,Nat.le_refl _,ja,rfl,HRH⟩
 case round=>
  clear HRH;obtain⟨k,zk,jg,jO,rfl,HR⟩:=hrel;by_cases c1:2*k+1<m
  ·have t1:2*(k:Int)+1<(m:Int):=by omega
   have p1:(0:Int)≤2*(k:Int)+1:=(by omega);have p2:(0:Int)≤2*(k:Int)+1+1:=(by omega);have e1:(2*(k:Int)+1).toNat=2*k+1:=(by omega);have e2:(2*(k:Int)+1+1).toNat=2*k+2:=(by omega);obtain⟨x,hx⟩:=named (zk.getD k 0);obtain⟨y,hy⟩:=named (zk.getD (2*k+1) 0);have cx:=rW HR.out.own k (by omega);have cy:=rW HR.out.own (2*k+1) (by omega);rw[←hx.out]at cx;rw[←hy.out]at cy;have fx:=HR.out.own.frozenAt k;have fy:=HR.out.own.frozenAt (2*k+1);by_cases c2:2*k+2<m
   ·have t2:2*(k:Int)+1+1<(m:Int):=(by omega);obtain⟨z,hz⟩:=named (zk.getD (2*k+2) 0);have cz:=rW HR.out.own (2*k+2) (by omega);rw[←hz.out]at cz;have fz:=HR.out.own.frozenAt (2*k+2);by_cases d2:y<z
    ·by_cases d3:z≤x
     ·go_wp2_with fail
      go_quiet (fail);go_wp2_with fail
      go_quiet (fail);go_wp2;exact bodyPost_ret (v:=.tuple #[]) (results_none rfl _ _ _) rfl ⟨rfl,zk,HR.out.HJ,vG HR.out.hole (by rw[←hy.out,←hx.out];omega) (fun _=>by rw[←hz.out,←hx.out];exact d3),((HR.out.drewN _).drewN _).own,((HR.out.drewN _).drewN _).grown,((HR.out.drewN _).drewN _).size⟩
     ·go_wp2_with fail
      go_quiet (fail);go_wp2_with fail
      go_quiet (fail);go_wp2_with fail
      generalize BI:wr.drewN _=wq;have ci:wq.cell? ⟨g,k,none⟩=some (.int .i64 x):=(by rw[←BI];exact cx);have cd:wq.cell? ⟨g,2*k+2,none⟩=some (.int .i64 z):=(by rw[←BI];exact cz);have fi:wq.frozen? ⟨g,k,none⟩=false:=(by rw[←BI];exact fx);have fd:wq.frozen? ⟨g,2*k+2,none⟩=false:=(by rw[←BI];exact fz);go_region;go_wp2;go_roundw
      case rel=>
       obtain⟨q,hq⟩:∃q,wq=wr.drewN q:=⟨_,BI.symm⟩;refine⟨2*k+2,iO zk k (2*k+2),by omega,by omega,by go_num,?_⟩;rw[hq,hx.out,hz.out]
       exact vR ((HR.out.drewN q).drewN _) qz.out hmn (.inr rfl) (by omega) (by omega) (by rw[←hx.out,←hz.out];omega) (by
        intro d' hd' h;rcases h with rfl|rfl
        ·rw[←hy.out,←hz.out];omega
        ·exact Int.le_refl _) 0
      case measure=>simp[intOf];omega
    ·by_cases d3:y≤x
     ·go_wp2_with fail
      go_quiet (fail);go_wp2_with fail
      go_quiet (fail);go_wp2;exact bodyPost_ret (v:=.tuple #[]) (results_none rfl _ _ _) rfl ⟨rfl,zk,HR.out.HJ,vG HR.out.hole (by rw[←hy.out,←hx.out];exact d3) (fun _=>by rw[←hz.out,←hx.out];omega),((HR.out.drewN _).drewN _).own,((HR.out.drewN _).drewN _).grown,((HR.out.drewN _).drewN _).size⟩
     ·go_wp2_with fail
      go_quiet (fail);go_wp2_with fail
      go_quiet (fail);go_wp2_with fail
      generalize BI:wr.drewN _=wq;have ci:wq.cell? ⟨g,k,none⟩=some (.int .i64 x):=(by rw[←BI];exact cx);have cd:wq.cell? ⟨g,2*k+1,none⟩=some (.int .i64 y):=(by rw[←BI];exact cy);have fi:wq.frozen? ⟨g,k,none⟩=false:=(by rw[←BI];exact fx);have fd:wq.frozen? ⟨g,2*k+1,none⟩=false:=(by rw[←BI];exact fy);go_region;go_wp2;go_roundw
      case rel=>
       obtain⟨q,hq⟩:∃q,wq=wr.drewN q:=⟨_,BI.symm⟩;refine⟨2*k+1,iO zk k (2*k+1),by omega,by omega,by go_num,?_⟩;rw[hq,hx.out,hy.out]
       exact vR ((HR.out.drewN q).drewN _) qz.out hmn (.inl rfl) (by omega) (by omega) (by rw[←hx.out,←hy.out];omega) (by
        intro d' hd' h;rcases h with rfl|rfl
        ·exact Int.le_refl _
        ·rw[←hz.out,←hy.out];omega) 0
      case measure=>simp[intOf];omega
   ·have t2:decide (2*(k:Int)+1+1<(m:Int))=false:=(by simp;omega);by_cases d3:y≤x
    ·go_wp2_with fail
     go_quiet (fail);go_wp2_with fail
     go_quiet (fail);go_wp2;exact bodyPost_ret (v:=.tuple #[]) (results_none rfl _ _ _) rfl ⟨rfl,zk,HR.out.HJ,vG HR.out.hole (by rw[←hy.out,←hx.out];exact d3) (fun h=>by omega),((HR.out.drewN _).drewN _).own,((HR.out.drewN _).drewN _).grown,((HR.out.drewN _).drewN _).size⟩
    ·go_wp2_with fail
     go_quiet (fail);go_wp2_with fail
     go_quiet (fail);go_wp2_with fail
     generalize BI:wr.drewN _=wq;have ci:wq.cell? ⟨g,k,none⟩=some (.int .i64 x):=(by rw[←BI];exact cx);have cd:wq.cell? ⟨g,2*k+1,none⟩=some (.int .i64 y):=(by rw[←BI];exact cy);have fi:wq.frozen? ⟨g,k,none⟩=false:=(by rw[←BI];exact fx);have fd:wq.frozen? ⟨g,2*k+1,none⟩=false:=(by rw[←BI];exact fy);go_region;go_wp2;go_roundw
     case rel=>
      obtain⟨q,hq⟩:∃q,wq=wr.drewN q:=⟨_,BI.symm⟩;refine⟨2*k+1,iO zk k (2*k+1),by omega,by omega,by go_num,?_⟩;rw[hq,hx.out,hy.out]
      exact vR ((HR.out.drewN q).drewN _) qz.out hmn (.inl rfl) (by omega) (by omega) (by rw[←hx.out,←hy.out];omega) (by
       intro d' hd' h;rcases h with rfl|rfl
       ·exact Int.le_refl _
       ·omega) 0
     case measure=>simp[intOf];omega
  ·go_wp2;exact bodyPost_ret (v:=.tuple #[]) (results_none rfl _ _ _) rfl ⟨rfl,zk,HR.out.HJ,K6 HR.out.hole (by omega),HR.out.own,HR.out.grown,HR.out.size⟩
def yH(l:List Int):List Int:=l.mergeSort (fun a b=>decide (a≤b))
theorem yI(l:List Int):(yH l).Perm l:=List.mergeSort_perm _ _
theorem CN(l:List Int):(yH l).Pairwise (· ≤·):=by
 have h:=List.pairwise_mergeSort (le:=fun a b:Int=>decide (a≤b)) (by intro a b c h1 h2;simp at*;omega) (by intro a b;simp;omega) l;exact h.imp fun h=>by simpa using h
theorem EO{l l':List Int}(hp:l'.Perm l)(hs:l'.Pairwise (· ≤·)):l'=yH l:=Aw hs (CN l) (hp.trans (yI l).symm)
theorem lI(l:List Int):(yH l).length=l.length:=(yI l).length_eq
theorem rX{w:World}{B e g n:Nat}{xs:List Value}(h:w.ownsRow B e 1 (.slice (some ⟨g,0,none⟩) n n) n xs):w.heap[g]?=some (.cells xs.toArray e (0,0)):=by
 rcases h.2 with⟨h',_⟩|⟨g',cap,cur,h',hb,hg,JU,K8,fa,ht⟩
 ·simp at h'
 ·simp only[Value.slice.injEq,oZ,Addr.mk.injEq,and_true,true_and]at h';obtain⟨rfl,rfl⟩:=h';rw[hg];have:cur.toList=xs:=by rw[←ht,yl (by simp[fa])]
  rw[←this]
structure S1(B n:Nat)(zs:List Int)(w:World)(t:Nat)(wr:World):Prop where
 ex:∃zk:List Int,zk.length=n∧zk.Perm zs∧iP zk n t∧wr.ownsRow B 3 1 (.slice (some ⟨B,0,none⟩) n n) n (zk.map (Value.int .i64))
 below:Below B w wr
structure S2(B n:Nat)(zs:List Int)(w:World)(e:Int)(wr:World):Prop where
 ex:∃zk:List Int,zk.length=n∧zk.Perm zs∧(0≤e→Phase zk (e.toNat+1))∧wr.ownsRow B 3 1 (.slice (some ⟨B,0,none⟩) n n) n (zk.map (Value.int .i64))
 below:Below B w wr
theorem rY{B:Nat}{a w w':World}(h:Below B a w)(hg:w.grownBy w' (some B))(hB:B≤w.heap.size):Below B a w':=
 h.grown hg hB (by intro k hk;simp at hk;omega)
theorem N8(zs:List Int)(n:Nat)(hn:n=zs.length)(a:Option Addr)(c:Nat)(w:World)(h:Rd .i64 w a zs)(hs:n≤1000):Calls prog 216 #[.slice a n c] w (vH w (yH zs)):=by
 obtain⟨i0,hi,fV,gF,gG⟩:=info_parts lC;have Hn:=ag hn;clear hn;have H1:=ag h;clear h;go_enter func216,ntmps216;go_wp2_with (at_make;go_loud (refine wpList_make_full _ rfl _ _ 28 rfl w.heap.size 3 i0 (.int .i64 0) 1 underlying28 hi fV gF _ _ _ _ n rfl rfl rfl rfl (by rw[gG];omega) (by unfold maxLen;omega) cG ?_));intro w1 hown bX;have gq:Below w.heap.size w w1:=(fp _ _).grown bX cG (by intro k hk;cases hk);rw[toList_madeCells_one]at hown;have AA:=ag (rX hown);obtain⟨cs,fa⟩:=dC (zs.map (Value.int .i64));have Sg:=ag fa;have cP:cs.length=n:=by rw[Sg.out,ko,Hn.out]
 have qz:=ag cP;clear hown bX fa cP;go_wp2_with (with_reducible refine wpList_copy_splice rfl (.tmp 9) (.tmp 10) 28 28 rfl 3 underlying28 (by kernel_rfl) _ _ _ _ _ _ rfl rfl w.heap.size 0 (List.replicate n (.int .i64 0)) 3 AA.out cs ?c1 ?c2 ?c3 ?c4 w.heap.size w gq cG ?_)
 case c1=>simp[qz.out]
 case c2=>
  intro h0;rw[qz.out,Hn.out]at h0;obtain⟨b,off,rfl,hc⟩:=(H1.out.below gq cG).2 h0;refine⟨_,rfl,fun j v hv=>?_⟩;rw[Sg.out,na]at hv
  have hj:j<zs.length:=by
   rcases Nat.lt_or_ge j zs.length with h|h
   ·exact h
   ·rw[rq h]at hv;cases hv
  rw[fv hj]at hv;rw[Addr.add_lit,hc j hj];simp at hv;rw[←hv];simp[List.getD,hj]
 case c3=>simp[qz.out]
 case c4=>
  intro v hv;rw[Sg.out]at hv;exact ints_oneCell _ _ v hv
 intro w2 HG mz;have hG:=HG.out;have e1:splice (List.replicate n (Value.int .i64 0)) 0 cs=cs:=by simp[splice,qz.out]
 rw[e1]at hG
 have fu:w2.ownsRow w.heap.size 3 1 (.slice (some ⟨w.heap.size,0,none⟩) n n) n (zs.map (Value.int .i64)):=
  ⟨by simp[Hn.out],.inr ⟨_,n,_,rfl,Nat.le_refl _,hG,Nat.le_refl _,by unfold maxLen;omega,by simp[qz.out],by rw[←Sg.out];exact yl (by simp[qz.out])⟩⟩
 have HS:Hid (S1 w.heap.size n zs w (n / 2) w2):=⟨⟨zs,Hn.out.symm,.refl _,La _ _ _ (by omega),fu⟩,mz⟩;clear fu hG e1 HG mz gq AA;go_wp2;go_loopw [4] (fun i wr=>∃(i0:Int) (t:Nat),i=.int .i64 i0∧i0+1=t∧t≤n∧Hid (S1 w.heap.size n zs w t wr)) (fun i _=>(intOf i+1).toNat)
 case atStart=>exact⟨_,n / 2,rfl,by omega,by omega,HS⟩
 case round=>
  clear HS;obtain⟨i0,t,rfl,hit,htn,HS⟩:=hrel;have Hit:=ag hit;by_cases hpos:0≤i0
  ·obtain⟨s,rfl⟩:=pz hpos;obtain rfl:t=s+1:=by omega
   clear hit hpos;go_wp2_with fail
   obtain⟨⟨zk,Ay,So,Sp,Lv⟩,VO⟩:=HS.out;refine(EN w.heap.size w.heap.size n n n s n zk _ cG hs (by omega) Ay Sp Lv).mono ?_;rintro e w3 ⟨rfl,VN,UD,EP,YR,kX,hsz⟩;have HS':Hid (S1 w.heap.size n zs w s w3):=⟨⟨VN,UD.len.trans Ay,UD.perm.trans So,EP,YR⟩,rY VO kX VO.size⟩;clear VO YR kX hsz HS Lv Sp EP UD So Ay;go_wp2;go_roundw
   case rel=>exact⟨_,s,rfl,by omega,by omega,HS'⟩
   case measure=>simp[intOf]
  ·obtain rfl:t=0:=by omega
   have HP:Hid (S2 w.heap.size n zs w ((n:Int)-1) wr):=(by obtain⟨⟨zk,Ay,So,Sp,Lv⟩,VO⟩:=HS.out;refine⟨⟨zk,Ay,So,fun h0=>?_,Lv⟩,VO⟩;rw[show((n:Int)-1).toNat+1=zk.length by omega];exact ED (by rw[Ay];exact Sp));clear hit HS Hit;go_wp2;go_loopw [5] (fun i wr=>∃(e0:Int),i=.int .i64 e0∧ -1≤e0∧e0<n∧Hid (e0<0→n≤1)∧Hid (S2 w.heap.size n zs w e0 wr)) (fun i _=>(intOf i).toNat)
   case atStart=>exact⟨_,rfl,by omega,by omega,(fun h=>by omega:(n:Int)-1<0→n≤1),HP⟩
   case round=>
    clear HP;obtain⟨e0,rfl,ja,hhi,HE,HP⟩:=hrel;by_cases nT:0<e0
    ·obtain⟨s,rfl⟩:=pz (by omega:0≤e0);obtain⟨zk,Ay,So,Sp,Lv⟩:=HP.out.ex;have hph:Phase zk (s+1):=Sp (by omega);obtain⟨x,hx⟩:=named (zk.getD 0 0);obtain⟨y,hy⟩:=named (zk.getD s 0);have cx:=rW Lv 0 (by omega);have cy:=rW Lv s (by omega);rw[←hx.out]at cx;rw[←hy.out]at cy;have fx:=Lv.frozenAt 0;have fy:=Lv.frozenAt s;have hs0:¬s=0:=(by omega);have Sq:Hid (zk.length=n∧zk.Perm zs∧Phase zk (s+1)):=⟨Ay,So,hph⟩;have Hzo:=ag Lv;clear Ay So Sp Lv hph;go_wp2;go_region;have UE:=uJ Hzo.out (i:=0) (j:=s) hx.out hy.out;have N9:=yu Sq.out.2.2 (by rw[Sq.out.1];omega) (by omega);have mz:Below w.heap.size w ((wr.setCell ⟨w.heap.size,0,none⟩ (.int .i64 y)).setCell ⟨w.heap.size,s,none⟩ (.int .i64 x)):=tG HP.out.below cG;have mq:=ag mz;have Ru:=EN w.heap.size w.heap.size n n s 0 n (iO zk 0 s) (((wr.setCell ⟨w.heap.size,0,none⟩ (.int .i64 y)).setCell ⟨w.heap.size,s,none⟩ (.int .i64 x)).drew) (by omega) hs (by omega) (by rw[lB,Sq.out.1]) N9.1 UE;have CS:=ag Ru;clear Ru mz N9 UE cx cy fx fy;go_wp2_with fail
     refine CS.out.mono ?_;rintro e w3 ⟨rfl,VN,UD,EP,YR,kX,hsz⟩
     have HS':Hid (S2 w.heap.size n zs w ((s:Int)-1) w3):=by
      refine⟨⟨VN,?_,?_,fun _=>?_,YR⟩,rY mq.out.drew kX mq.out.size⟩
      ·rw[UD.len,lB,Sq.out.1]
      ·exact(UD.perm.trans (tF _ _ _ (by rw[Sq.out.1];omega) (by rw[Sq.out.1];omega))).trans Sq.out.2.1
      ·rw[show((s:Int)-1).toNat+1=s by omega];exact Hi Sq.out.2.2 (by rw[Sq.out.1];omega) (by omega) UD EP
     clear UD EP YR kX hsz CS mq Hzo HP;go_wp2;go_roundw
     case rel=>exact⟨_,rfl,by omega,by omega,(fun h=>by omega:(s:Int)-1<0→n≤1),HS'⟩
     case measure=>simp[intOf];omega
    ·go_wp2;go_ret;obtain⟨⟨zk,Ay,So,Sp,Lv⟩,VO⟩:=HP.out
     have Sr:zk.Pairwise (· ≤·):=by
      by_cases h0:e0=0
      ·subst h0;exact Cx (Sp (by omega))
      ·have:=HE.out (by omega);exact Cy (by omega)
     have hz:=EO So Sr;subst hz;exact⟨_,rfl,by unfold yv;rw[lI,←Hn.out];exact Lv,VO⟩
end Go.Proofs.YtadifmnmfnihdaaGreat
namespace Go.Proofs.YtadifmnmfnihdaaGreat
open Go.RowKit Mach Go.Proofs.Tryz
section
variable{af:Nat}{F:Fx}{w w0 w':World}{m m0 m':Mem}{S S':Wd}{L:List (Nat×Obj)}
theorem bz.UF(R:bz af F w m S):w.cell? ⟨F.gN,0,none⟩=some (m.cU .list S.list.length):=R.cell R.aB.gN (j:=0) rfl
theorem bz.HU(R:bz af F w m S):w.cell? ⟨F.gN,1,none⟩=some (I S.drawn):=R.cell R.aB.gN (j:=1) rfl
theorem At.drawn(A:At af F m0 w0 m w S)(n:Int):At af F m0 w0 m (w.setCell ⟨F.gN,1,none⟩ (I n)) {S with drawn:=n}:=by
 refine A.set A.bj.aB.gN rfl ?_;intro r' hT
 cases r'<;>first|exact aX rfl hT|rfl
theorem Ss(R:bz af F w m S)(n:Int)(hn:1≤n∧n≤100000)(d:Int)(hd:S.drawn=d)(h:(S.list.length:Int)≤d):Calls prog 197 #[.pointer (some ⟨F.gN,0,none⟩),I n] w (eL (I 0) fun w'=>At af F m w m w' S):=by
 have c0:=R.UF;have c1:=R.HU;obtain⟨a,c,hh⟩:=R.shape (r:=.list) (n:=S.list.length) (by simp[aj]);rw[hh]at c0;rw[hd]at c1;obtain⟨k,hk⟩:=dC (S.list.length);rw[←hk]at c0 h;have hb:decide ((k:Int)≤d)=true:=by simpa using h
 have gq:decide (n<1)=false:=by simp;omega
 have HA:=ag (At.refl R);clear R hd hh hk h;go_enter func197,ntmps197;go_wp2_with fail
 go_quiet (fail);go_wp2;go_ret;exact⟨rfl,HA.out.drewN _⟩
theorem Oa(R:bz af F w m S)(n:Int)(hn:1≤n∧n≤100000)(d:Nat)(hd:S.drawn=d)(hd9:d≤1000000)(v:Int)(h:S.list[d]?=some v)(hv:0≤v∧v≤65535):Calls prog 197 #[.pointer (some ⟨F.gN,0,none⟩),I n] w (eL (I (v % n)) fun w'=>At af F m w m w' {S with drawn:=d+1}):=by
 have c0:=R.UF;have c1:=R.HU;have fc1:=R.frozen R.aB.gN 1;have Lw:d<S.list.length:=cA h;obtain⟨b,hb⟩:=R.has (r:=.list) (by simp only[aj];intro e;rw[List.map_eq_nil_iff]at e;rw[e]at Lw;simp at Lw);have cv:w.cell? ⟨b,d,none⟩=some (U v):=R.cell hb (by simp only[aj,na,h,km]);rw[Mem.de hb]at c0;rw[hd]at c1;obtain⟨k,hk⟩:=dC (S.list.length);rw[←hk]at c0 Lw;have oH:decide ((k:Int)≤(d:Int))=false:=by simp;omega
 have gq:decide (n<1)=false:=by simp;omega
 have hw:IntKind.i64.wrap v=v:=jX _ (by omega);have ht:v.tmod n=v % n:=Int.tmod_eq_emod_of_nonneg hv.1;have nt:IntKind.i64.wrap (v % n)=v % n:=jX _ (by have:=Int.emod_nonneg v (show n≠0 by omega);have:=Int.emod_lt_of_pos v (show 0<n by omega);omega);have hz:¬n=0:=by omega
 have dD:=R.lt R.aB.gN;have ax9:=R.lt hb;have cM:=R.ne hb R.aB.gN;have xw:=cM.symm;have HA:=ag ((At.refl R).drawn (d+1));clear R hd hk h hb;go_enter func197,ntmps197;go_wp2_with fail
 go_quiet (fail);go_wp2_with fail
 go_quiet (fail);go_wp2;trace_state;go_ret;exact⟨rfl,HA.out.aI⟩
end
theorem run_loadVar_mid{P:Program}(w:World)(b off:Nat)(ty:TypeId)(cs:Array Value)(d:TypeDesc)(hc:∀j v,cs[j]?=some v→w.cell? ⟨b,off+j,none⟩=some v)(hu:P.underlying ty=some d)(hd:(match d with| .struct _| .array _ _=>true|_=>false)=true)(hi:(P.info? ty).map (·.size)=some cs.size):(loadVar ty ⟨b,off,none⟩).run P w=.ok (.agg cs) w:=by
 have hl:(loadCells ⟨b,off,none⟩ cs.toList.length).run P w=.ok cs.toList.toArray w:=
  run_loadCells_list (P:=P) w ⟨b,off,none⟩ cs.toList (fun j v hv=>by rw[Addr.add_lit];exact hc j v (by simpa using hv))
 cases hq:P.info? ty with
 |none=>simp[hq]at hi
 |some i=>
  have hs:i.size=cs.size:=by simpa[hq]using hi
  have ai5:(isAgg ty).run P w=.ok true w:=by
   unfold isAgg;rw[Sem.run_bind,run_underlying hu w]
   cases d<;>simp_all
  simp only[Array.length_toList,Array.toArray_toList]at hl;simp[loadVar,Sem.run_bind,ai5,sizeOf,typeInfo,hq,hs,hl]
theorem wpList_load_mid{P:Program}{ops:Array Oper}{rest:List Oper}{o:Oper}{a:Act}{w:World}{Q:Exit→Act→World→Prop}(nX:o.guard=none)(ty:TypeId)(x:Operand)(ho:o.op=.load ty x)(b off:Nat)(hx:a.eval x=.pointer (some ⟨b,off,none⟩))(cs:Array Value)(hc:∀j v,cs[j]?=some v→w.cell? ⟨b,off+j,none⟩=some v)(hu:∃d,P.underlying ty=some d∧(match d with| .struct _| .array _ _=>true|_=>false)=true)(hi:(P.info? ty).map (·.size)=some cs.size)(h:wpList P ops Q rest (a.put o.dst (.agg cs)) w):wpList P ops Q (o::rest) a w:=by
 obtain⟨d,hu,hd⟩:=hu
 have hr:(loadVar ty ⟨b,off,none⟩).run P w=.ok (.agg cs) w:=by
  cases d with
  |struct f=>exact run_loadVar_mid w b off ty cs _ hc hu rfl hi
  |array f e=>exact run_loadVar_mid w b off ty cs _ hc hu rfl hi
  |_=>cases hd
 refine wpList_plain nX fun _ hK=>?_
 unfold Oper.wp execOp;simp only[ho,hx,Instr.loadAt,Instr.sureAddr,Sem.run_bind,Sem.run_pure,Result.andThen_ok,hr];exact hK _ _ h
theorem df{P:Program}{ops:Array Oper}{rest:List Oper}{o:Oper}{a:Act}{w:World}{Q:Exit→Act→World→Prop}(nX:o.guard=none)(ty:TypeId)(x y:Operand)(ho:o.op=.store ty x y)(n:Nat)(hn:w.heap.size=n)(c c':Array Value)(hx:a.eval x=.pointer (some ⟨n,0,none⟩))(hy:a.eval y=.agg c')(hi:(P.info? ty).map (·.size)=some c'.size)(hs:c.size=c'.size)(h1:c'.all (·.oneCell')=true)(h:wpList P ops Q rest (a.put o.dst undef) (w.alloc (.cells c' ty))):wpList P ops Q (o::rest) a (w.alloc (.cells c ty)):=by
 subst hn;refine wpList_plain nX fun _ hK=>?_
 unfold Oper.wp execOp;simp only[ho,hx,hy,Instr.storeAt,Instr.sureAddr,Sem.run_bind,Sem.run_pure,Result.andThen_ok,run_storeVar_new w ty c c' hi hs h1];exact hK _ _ h
theorem mC:∃d,prog.underlying 100=some d∧(match d with| .struct _| .array _ _=>true|_=>false)=true:=by
 have h:(match prog.underlying 100 with|some d=>(match d with| .struct _| .array _ _=>true|_=>false)|none=>false)=true:=by kernel_rfl
 cases hd:prog.underlying 100 with
 |none=>rw[hd]at h;cases h
 |some d=>rw[hd]at h;exact⟨d,rfl,h⟩
theorem fE:(prog.info? 100).map (·.size)=some 25:=by kernel_rfl
theorem Ia(w:World)(o1 o2:Obj):((w.alloc o1).alloc o2).heap[w.heap.size]?=some o1:=by
 rw[gf (w.alloc o1) o2 w.heap.size (by simp)];exact dP w o1
theorem Ob:∃d,prog.underlying 46=some d∧(match d with| .struct _| .array _ _=>true|_=>false)=true:=by
 have h:(match prog.underlying 46 with|some d=>(match d with| .struct _| .array _ _=>true|_=>false)|none=>false)=true:=by kernel_rfl
 cases hd:prog.underlying 46 with
 |none=>rw[hd]at h;cases h
 |some d=>rw[hd]at h;exact⟨d,rfl,h⟩
theorem vS:(prog.info? 46).map (·.size)=some 13:=by kernel_rfl
theorem ER{fn:Func}{p:Tmp}(h:fn.results=#[.cell p 46])(tmps:Array Value)(w:World)(b:Nat)(v0 v1 v2 v3 v4 v5 v6 v7 v8 v9 v10 v11 v12:Value)(fr:Nat×Nat)(hp:tmps.getD p undef=.pointer (some ⟨b,0,none⟩))(hg:w.heap[b]?=some (.cells #[v0,v1,v2,v3,v4,v5,v6,v7,v8,v9,v10,v11,v12] 46 fr)):(results fn tmps).run prog w=.ok (.agg #[v0,v1,v2,v3,v4,v5,v6,v7,v8,v9,v10,v11,v12]) w:=by
 obtain⟨d,hu,hd⟩:=Ob;have vT:tmps[p]?.getD undef=.pointer (some ⟨b,0,none⟩):=by simpa using hp
 have hr:(loadVar 46 ⟨b,0,none⟩).run prog w=.ok (.agg #[v0,v1,v2,v3,v4,v5,v6,v7,v8,v9,v10,v11,v12]) w:=by
  cases d with
  |struct f=>exact run_loadVar_row w b 46 46 _ fr _ hg hu rfl vS
  |array f e=>exact run_loadVar_row w b 46 46 _ fr _ hg hu rfl vS
  |_=>cases hd
 simp[results,h,vT,asAddr,hr]
section
variable{af:Nat}{F:Fx}{w w0 w':World}{m m0 m':Mem}{S S':Wd}{L:List (Nat×Obj)}
def YS(x:Ex):Value:=.agg #[I x.g,I x.op,I x.call,I x.bJ,I x.point,I x.bF,I x.fire,I x.re,I x.res.aJ,I x.res.case,I x.res.v,B x.res.ok,I x.res.n]
theorem Lx(R:bz af F w m S)(g:Nat)(x:bI)(hx:S.gs[g]?=some x)(re:Int):Calls prog 144 #[bR F,I g,I re] w (eL (YS (qu x g re)) fun w'=>At af F m w m w' S):=by
 have eM:=cA hx;have c3:=R.eu;obtain⟨aU,cm,aY,aZ⟩:=R.pB;obtain⟨cs,fa⟩:∃cs:Array Value,cs=#[m.cU (.ops g) x.ops.length,I x.at_,I x.ae,I x.bU,B x.token,I x.call,B x.bk,I x.aN,I x.bY,I x.br,I x.t,I x.bJ,I x.point,I x.bF,I x.fire,I x.res.aJ,I x.res.case,I x.res.v,B x.res.ok,I x.res.n,m.cU (.aH g) x.aH.length,m.cU (.aq g) x.aq.length,m.cU (.bA g) x.bA.length,m.cU (.wakes g) x.wakes.length,I x.k]:=⟨_,rfl⟩
 have ES:Hid (cs.all (·.oneCell')=true):=by
  rw[fa];have h:∀r n,(m.cU r n).oneCell'=true:=fun r n=>by unfold Mem.cU;cases m.aV r<;>rfl
  have hI:∀n,(I n).oneCell'=true:=fun _=>rfl
  have hB:∀n,(B n).oneCell'=true:=fun _=>rfl
  refine ag ?_;simp only[List.all_toArray,List.all_cons,List.all_nil,h,hI,hB,Bool.and_self]
 have HC:Hid (∀j v,cs[j]?=some v→w.cell? ⟨F.gs,g*25+j,none⟩=some v):=fun j v hv=>R.g hx j v (by rw[show cs=(gk m g x).toArray from fa]at hv;simpa only[List.getElem?_toArray]using hv)
 have HS:Hid (cs.size=25):=by rw[fa];rfl
 have HA:=ag (At.refl R);have BJ:=ag fa;clear R hx fa;unfold bR;go_enter func144,ntmps144;go_upto_region 1 with fail
 repeat(fail_if_success (refine wpList_load_mid rfl 100 (.tmp 13) rfl F.gs (g*25) rfl cs ?_ ?_ ?_ ?_));go_step
 refine wpList_load_mid rfl 100 (.tmp 13) rfl F.gs (g*25) rfl cs ?_ mC (by rw[HS.out];exact fE) ?_
 ·intro j v hv;rw[kZ (w:=w) (gf w _ _ cm)];exact HC.out j v hv
 go_step;go_step;go_step;refine df rfl 100 (.tmp 7) (.tmp 14) rfl (w.heap.size+1) (by simp) _ cs rfl rfl (by rw[HS.out];exact fE) (by rw[HS.out];rfl) ES.out ?_;rw[BJ.out];obtain⟨v0,Rv⟩:∃v,v=m.cU (.ops g) x.ops.length:=⟨_,rfl⟩;obtain⟨v20,YT⟩:∃v,v=m.cU (.aH g) x.aH.length:=⟨_,rfl⟩;obtain⟨v21,YU⟩:∃v,v=m.cU (.aq g) x.aq.length:=⟨_,rfl⟩;obtain⟨v22,YV⟩:∃v,v=m.cU (.bA g) x.bA.length:=⟨_,rfl⟩;obtain⟨v23,YW⟩:∃v,v=m.cU (.wakes g) x.wakes.length:=⟨_,rfl⟩;rw[←Rv,←YT,←YU,←YV,←YW];clear Rv YT YU YV YW HC ES BJ HS;go_wp2;refine bodyPost_ret (ER rfl _ _ w.heap.size _ _ _ _ _ _ _ _ _ _ _ _ _ (0,0) rfl (Ia w _ _)) rfl ?_;refine⟨rfl,?_⟩;exact(HA.out.alloc _).alloc _
end
def gC(w:World)(a:Option Addr)(n:Nat)(cs:List Value):Prop:=0<n→∃b off,a=some ⟨b,off,none⟩∧∀j u,cs[j]?=some u→w.cell? ⟨b,off+j,none⟩=some u
theorem gC.below{w w':World}{a:Option Addr}{n B:Nat}{cs:List Value}(h:gC w a n cs)(hb:Below B w w')(hB:w.heap.size≤B):gC w' a n cs:=fun h0=>by
 obtain⟨b,off,e,h1⟩:=h h0;exact⟨b,off,e,fun j u hu=>cw hb hB _ _ (h1 j u hu)⟩
theorem gC.nil(w:World)(a:Option Addr)(cs:List Value):gC w a 0 cs:=fun h=>aX h (by omega)
theorem gC.qE{w w':World}{hb:Option Addr}{n cap size:Nat}{e:TypeId}{cs:List Value}(h:hb=none∧n=0∧cap=0∨hb=some ⟨w.heap.size,0,none⟩∧w'.ownsRow w.heap.size e size (.slice (some ⟨w.heap.size,0,none⟩) n cap) n cs):gC w' hb n cs:=by
 rcases h with⟨rfl,rfl,rfl⟩|⟨rfl,h⟩
 ·exact gC.nil _ _ _
 ·intro h0;obtain⟨_,hl⟩:=gl.kg (ty:=none) (p:=(e,size)) (fun q h=>by cases h) h;exact⟨_,0,rfl,fun j u hu=>by rw[Nat.zero_add];exact hl.cell j u hu⟩
theorem pG{w w':World}{hb:Option Addr}{n cap size:Nat}{e:TypeId}{cs:List Value}(h:hb=none∧n=0∧cap=0∨hb=some ⟨w.heap.size,0,none⟩∧w'.ownsRow w.heap.size e size (.slice (some ⟨w.heap.size,0,none⟩) n cap) n cs):∀b off,hb=some ⟨b,off,none⟩→w.heap.size≤b∧b<w'.heap.size:=by
 intro b off e;rcases h with⟨h1,_⟩|⟨h1,h2⟩
 ·rw[h1]at e;cases e
 ·rw[h1]at e;cases e;obtain⟨_,hl⟩:=gl.kg (ty:=none) (p:=(_,size)) (fun q h=>by cases h) h2;exact⟨Nat.le_refl _,hl.lt⟩
theorem gC.tO{w:World}{a:Option Addr}{n cap size lo:Nat}{e:TypeId}{cs:List Value}(h:w.ownsRow lo e size (.slice a n cap) n cs):gC w a n cs:=by
 intro h0;rcases h.2 with⟨h1,h2⟩|⟨g,pF,cur,h1,_⟩
 ·omega
 ·simp only[Value.slice.injEq]at h1;obtain⟨rfl,_,rfl⟩:=h1;obtain⟨_,hl⟩:=gl.kg (ty:=none) (p:=(e,size)) (fun q h=>by cases h) h;exact⟨_,0,rfl,fun j u hu=>by rw[Nat.zero_add];exact hl.cell j u hu⟩
theorem lJ{w:World}{a:Option Addr}{n cap size lo:Nat}{e:TypeId}{cs:List Value}(h:w.ownsRow lo e size (.slice a n cap) n cs):∀b off,a=some ⟨b,off,none⟩→lo≤b∧b<w.heap.size:=by
 intro b off e;rcases h.2 with⟨h1,h2⟩|⟨g,pF,cur,h1,h2,_⟩
 ·simp only[Value.slice.injEq]at h1;rw[h1.1]at e;cases e
 ·simp only[Value.slice.injEq]at h1;obtain⟨rfl,_,rfl⟩:=h1
  cases e;obtain⟨_,hl⟩:=gl.kg (ty:=none) (p:=(_,size)) (fun q h=>by cases h) h;exact⟨h2,hl.lt⟩
section
variable{af:Nat}{F:Fx}{w w0:World}{m m0:Mem}{S:Wd}
theorem bz.Ib(R:bz af F w m S){r:bH}{n:Nat}(h:aj m S r=[]→n=0):∃a c,m.cU r n=.slice a n c∧gC w a n (aj m S r):=by
 cases hb:m.aV r with
 |none=>
  have:=h (R.none_ r hb);subst this;exact⟨none,0,Mem.j6 hb _,gC.nil _ _ _⟩
 |some b=>exact⟨_,_,Mem.de hb _,fun _=>⟨b,0,rfl,fun j u hu=>by rw[Nat.zero_add];exact R.cell hb hu⟩⟩
theorem qF{α:Type}{f:α→Value}{l:List α}(h:l.map f=[]):l.length=0:=by simpa using h
theorem ET(R:bz af F w m S)(hl:S.ar.aK.length≤1000):Calls prog 46 #[.pointer (some ⟨F.ar,0,none⟩)] w fun e w'=>∃a c,e=.returned (.slice a S.ar.aK.length c)∧gC w' a S.ar.aK.length (S.ar.aK.map I)∧Below w.heap.size w w'∧∀b off,a=some ⟨b,off,none⟩→w.heap.size≤b∧b<w'.heap.size:=by
 obtain⟨i0,hi,fV,gF,gG⟩:=info_parts lC;obtain⟨a,c,h1,h2⟩:=R.Ib (r:=.aK) (n:=S.ar.aK.length) qF;have c3:=R.uK;rw[h1]at c3;obtain⟨n,hn⟩:=dC (S.ar.aK.length);obtain⟨cs,fa⟩:=dC (S.ar.aK.map I);have cP:cs.length=n*1:=by rw[fa,hn];simp
 have H2:Hid (0<n→∃b off,a=some ⟨b,off,none⟩∧∀j u,cs[j]?=some u→w.cell? ⟨b,off+j,none⟩=some u):=by rw[fa,hn];exact h2
 have H1:Hid (∀u∈cs,u.oneCell'=true):=by rw[fa];exact ints_oneCell _ _
 rw[←hn]at c3 hl ⊢;rw[←fa];have HL:=ag cP;clear R h1 h2 hn fa cP;go_enter func46,ntmps46;go_wp2_with (at_builtin;go_loud (refine gu rfl _ _ 28 rfl underlying28 hi fV gF gG rfl (by decide) (by decide) rfl a n c rfl cs HL.out H2.out H1.out (by omega) ?_));intro hb lK w2 EU rj;have HS:=ag (gC.qE rj);have UG:=ag (pG rj);have HB:Hid (Below w.heap.size w w2):=(fp _ _).grown EU cG (by intro k hk;cases hk);clear rj EU;go_wp2;go_ret;exact⟨hb,lK,rfl,HS.out,HB.out,UG.out⟩
theorem Ic(R:bz af F w m S):Calls prog 47 #[.pointer (some ⟨F.ar,0,none⟩)] w (eL (I S.ar.cO) fun w'=>w=w'):=by
 have c4:=R.Ho;clear R;go_enter func47,ntmps47;go_wp2;go_ret;exact⟨rfl,rfl⟩
theorem EV(R:bz af F w m S):Calls prog 48 #[.pointer (some ⟨F.gN,0,none⟩)] w (eL (I S.drawn) fun w'=>w=w'):=by
 have c4:=R.HU;clear R;go_enter func48,ntmps48;go_wp2;go_ret;exact⟨rfl,rfl⟩
theorem Ie(n:Nat)(hn:1≤n∧n≤1000)(w:World):Calls prog 57 #[I n] w (eL (I (2*n-2)) fun w'=>w=w'):=by
 go_enter func57,ntmps57;go_wp2;go_ret;exact⟨by go_num,rfl⟩
theorem Ig(n:Nat)(hn:1≤n∧n≤1000)(w:World):Calls prog 58 #[I n] w (eL (I (2*n-1)) fun w'=>w=w'):=by
 go_enter func58,ntmps58;go_wp2;go_ret;exact⟨by go_num,rfl⟩
theorem EW(R:bz af F w m S)(g:Nat)(c:List Int)(hc:S.ar.aC[g]?=some c)(hl:c.length≤1000)(gm:S.ar.aC.length≤1000):Calls prog 52 #[.pointer (some ⟨F.ar,0,none⟩),I g] w fun e w'=>∃a cp,e=.returned (.slice a c.length cp)∧gC w' a c.length (c.map I)∧Below w.heap.size w w'∧∀b off,a=some ⟨b,off,none⟩→w.heap.size≤b∧b<w'.heap.size:=by
 obtain⟨i0,hi,fV,gF,gG⟩:=info_parts lC;have jM:aj m S (.cache g)=c.map I:=by simp only[aj,hc]
 obtain⟨a,cp,h1,h2⟩:=R.Ib (r:=.cache g) (n:=c.length) (by rw[jM];exact qF);rw[jM]at h2;have eM:=fm hc;have c2:=R.pf;have ch:=R.tH hc;rw[h1]at ch;obtain⟨n,hn⟩:=dC (c.length);obtain⟨N,hN⟩:=dC (S.ar.aC.length);obtain⟨cs,fa⟩:=dC (c.map I);have cP:cs.length=n*1:=by rw[fa,hn];simp
 have H2:Hid (0<n→∃b off,a=some ⟨b,off,none⟩∧∀j u,cs[j]?=some u→w.cell? ⟨b,off+j,none⟩=some u):=by rw[fa,hn];exact h2
 have H1:Hid (∀u∈cs,u.oneCell'=true):=by rw[fa];exact ints_oneCell _ _
 rw[←hn]at ch hl ⊢;rw[←hN]at c2 eM gm;rw[←fa];have HL:=ag cP;clear R h1 h2 hn fa cP jM hc hN;go_enter func52,ntmps52;go_wp2_with (first|(at_builtin;go_loud (refine gu rfl (.const (.slice none 0 0)) (.tmp 15) 28 rfl underlying28 hi fV gF gG rfl (by decide) (by decide) rfl a n cp rfl cs HL.out H2.out H1.out (by omega) ?_))|go_in);intro hb lK w2 EU rj;have HS:=ag (gC.qE rj);have UG:=ag (pG rj);have HB:Hid (Below w.heap.size w w2):=(fp _ _).grown EU cG (by intro k hk;cases hk);clear rj EU;go_wp2;go_ret;exact⟨hb,lK,rfl,HS.out,HB.out,UG.out⟩
end
end Go.Proofs.YtadifmnmfnihdaaGreat
