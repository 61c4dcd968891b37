import Derived.Test.YtadifmnmfnihdaaGreatA00
set_option linter.all false
set_option maxRecDepth 100000
set_option maxHeartbeats 40000000
namespace Go.Proofs.YtadifmnmfnihdaaGreat
open Go.RowKit Mach Go.Proofs.Tryz
theorem yw{P:Program}{o:Oper}{a:Act}{w:World}{K:Act→World→Prop}{Q:Exit→Act→World→Prop}(s x:Operand)(t:TypeId)(ho:o.op=.call {callee:=.builtin .append,args:=#[s,x],argTypes:=#[t,t]}){e:TypeId}{i:TypeInfo}(ht:P.underlying t=some (.slice e))(hi:P.info? e=some i)(hs:a.eval s=.slice none 0 0)(ao:Option Addr)(c:Nat)(hx:a.eval x=.slice ao 0 c)(h:K (a.put o.dst (.slice none 0 0)) w):o.wp P a w K Q:=by
 have hr:(Builtin.append_ #[t,t] o.type #[.slice none 0 0,.slice ao 0 c]).run P w=.ok (.slice none 0 0) w:=by cases ao<;>simp[Builtin.append_,run_underlying ht,sizeOf,typeInfo,hi,Builtin.lenOf,Builtin.firstCells,loadCells,loadCellsFrom]
 unfold Oper.wp execOp;simp only[ho,resolve,invoke,builtin,Sem.run_bind,Sem.run_pure,Result.andThen_ok,List.map_toArray,List.map_cons,List.map_nil,hs,hx,hr];exact h
theorem EF{P:Program}{o:Oper}{a:Act}{w:World}{K:Act→World→Prop}{Q:Exit→Act→World→Prop}(s x:Operand)(t:TypeId)(ho:o.op=.call {callee:=.builtin .append,args:=#[s,x],argTypes:=#[t,t]}){e:TypeId}{i:TypeInfo}{z:Value}{size bytes:Nat}(ht:P.underlying t=some (.slice e))(hi:P.info? e=some i)(hz:i.zero=some z)(hsize:i.size=size)(hby:i.bytes=bytes)(hzs:z.cells.size=size)(hsz:0<size)(hbb:bytes≤200)(hs:a.eval s=.slice none 0 0)(b off n c:Nat)(hx:a.eval x=.slice (some ⟨b,off,none⟩) n c)(cs:List Value)(hl:cs.length=n*size)(hc:∀j u,cs[j]?=some u→w.cell? ⟨b,off+j,none⟩=some u)(h1:∀u∈cs,u.oneCell'=true)(h0:0<n)(hn:n<1000001)(h:∀cap w',w'.ownsRow w.heap.size e size (.slice (some ⟨w.heap.size,0,none⟩) n cap) n cs→w.grownBy w' none→K (a.put o.dst (.slice (some ⟨w.heap.size,0,none⟩) n cap)) w'):o.wp P a w K Q:=by
 have hm:(0+n)*bytes≤140737488355328:=by have:=Nat.mul_le_mul (show n≤1000001 by omega) hbb;rw[Nat.zero_add];omega
 refine wp_append_lies w s x t ho w.heap.size e i z size bytes ht hi hz hsize hby hzs hsz (.slice none 0 0) 0 [] hs (World.ownsRow_nil _ _ _ _) ⟨b,off,none⟩ n c cs hx hl (fun j u hu=>by rw[Addr.add_lit];exact hc j u hu) h1 h0 (by unfold maxLen;omega) hm cG _ rfl ?_;intro g cap w' ho hg hw hl;rcases hw with hw|hw
 ·cases hw
 ·subst hw;rw[Nat.zero_add]at ho;rw[Nat.zero_add];exact h cap w' (by simpa using ho) hg
theorem gO{P:Program}{ops:Array Oper}{rest:List Oper}{o:Oper}{a:Act}{w:World}{Q:Exit→Act→World→Prop}(nX:o.guard=none)(s x:Operand)(t:TypeId)(ho:o.op=.call {callee:=.builtin .append,args:=#[s,x],argTypes:=#[t,t]}){e:TypeId}{i:TypeInfo}(ht:P.underlying t=some (.slice e))(hi:P.info? e=some i)(hs:a.eval s=.slice none 0 0)(ao:Option Addr)(c:Nat)(hx:a.eval x=.slice ao 0 c)(h:wpList P ops Q rest (a.put o.dst (.slice none 0 0)) w):wpList P ops Q (o::rest) a w:=
 wpList_plain nX fun _ hK=>yw s x t ho ht hi hs ao c hx (hK _ _ h)
theorem uM{P:Program}{ops:Array Oper}{rest:List Oper}{o:Oper}{a:Act}{w:World}{Q:Exit→Act→World→Prop}(nX:o.guard=none)(s x:Operand)(t:TypeId)(ho:o.op=.call {callee:=.builtin .append,args:=#[s,x],argTypes:=#[t,t]}){e:TypeId}{i:TypeInfo}{z:Value}{size bytes:Nat}(ht:P.underlying t=some (.slice e))(hi:P.info? e=some i)(hz:i.zero=some z)(hsize:i.size=size)(hby:i.bytes=bytes)(hzs:z.cells.size=size)(hsz:0<size)(hbb:bytes≤200)(hs:a.eval s=.slice none 0 0)(b off n c:Nat)(hx:a.eval x=.slice (some ⟨b,off,none⟩) n c)(cs:List Value)(hl:cs.length=n*size)(hc:∀j u,cs[j]?=some u→w.cell? ⟨b,off+j,none⟩=some u)(h1:∀u∈cs,u.oneCell'=true)(h0:0<n)(hn:n<1000001)(h:∀cap w',w'.ownsRow w.heap.size e size (.slice (some ⟨w.heap.size,0,none⟩) n cap) n cs→w.grownBy w' none→wpList P ops Q rest (a.put o.dst (.slice (some ⟨w.heap.size,0,none⟩) n cap)) w'):wpList P ops Q (o::rest) a w:=
 wpList_plain nX fun _ hK=>EF s x t ho ht hi hz hsize hby hzs hsz hbb hs b off n c hx cs hl hc h1 h0 hn fun cap w' h2 h3=>hK _ _ (h cap w' h2 h3)
theorem Sc(a b c d e f:Value)(w:World):(Instr.field 49 (.agg #[a,b,c,d,e,f]) 0).run prog w=.ok a w:=by kernel_rfl
theorem qA(a b c d e f:Value)(w:World):(Instr.field 49 (.agg #[a,b,c,d,e,f]) 1).run prog w=.ok b w:=by kernel_rfl
def dm(H:Nat)(w:World)(v:Value)(cs:List Case):Prop:=
 cs=[]∧v=.slice none 0 0∨
 ∃nb cap,cs≠[]∧v=.slice (some ⟨nb,0,none⟩) cs.length cap∧H≤nb∧nb<w.heap.size∧
  ∀j c,cs[j]?=some c→w.cell? ⟨nb,j*3,none⟩=some (B c.cF)∧w.cell? ⟨nb,j*3+1,none⟩=some (I c.ch)∧w.cell? ⟨nb,j*3+2,none⟩=some (I c.v)
section
variable{af:Nat}{F:Fx}{w w0 w':World}{m m0 m':Mem}{S S':Wd}
theorem dm.below{H:Nat}{v:Value}{cs:List Case}(h:dm H w v cs)(hm:Below w.heap.size w w'):dm H w' v cs:=by
 rcases h with h|⟨nb,cap,h1,h2,h3,h4,h5⟩
 ·exact .inl h
 ·have hc:∀j v,w.cell? ⟨nb,j,none⟩=some v→w'.cell? ⟨nb,j,none⟩=some v:=fun j v hv=>by
   rw[hm.cell (p:=⟨nb,j,none⟩) h4];exact hv
  exact .inr ⟨nb,cap,h1,h2,h3,uB h4 hm.size,fun j c hj=>⟨hc _ _ (h5 j c hj).1,hc _ _ (h5 j c hj).2.1,hc _ _ (h5 j c hj).2.2⟩⟩
end
section
variable{af:Nat}{F:Fx}{w w0:World}{m m0:Mem}{S:Wd}
theorem EG(R:bz af F w m S):∃a c,w.cell? ⟨F.al,5,none⟩=some (.slice a S.au.length c):=by
 obtain⟨a,c,h⟩:=R.shape (r:=.au) (n:=S.au.length) (by simp[aj]);exact⟨a,c,h▸R.qx⟩
theorem gJ(R:bz af F w m S)(ch:Int):Calls prog 138 #[bR F,I ch] w (eL (.bool (cZ S ch)) fun w'=>w=w'):=by
 obtain⟨a,c,c0⟩:=EG R;unfold cZ;obtain⟨n,hn⟩:=dC (S.au.length);rw[←hn]at c0 ⊢;clear R hn;by_cases h1:1≤ch
 ·unfold bR;go_enter func138,ntmps138;go_wp2;go_ret;exact⟨by simp[h1],rfl⟩
 ·have hd:decide (1≤ch)=false:=by simpa using h1
  unfold bR;go_enter func138,ntmps138;go_wp2;go_ret;exact⟨by simp[h1],rfl⟩
theorem EH(R:bz af F w m S){g:Nat}{x:bI}(hx:S.gs[g]?=some x):∃a c,w.cell? ⟨F.gs,g*25+23,none⟩=some (.slice a x.wakes.length c):=by
 obtain⟨a,c,h⟩:=R.shape (r:=.wakes g) (n:=x.wakes.length) (by simp[aj,hx]);exact⟨a,c,h▸R.g hx 23 _ rfl⟩
theorem uN(R:bz af F w m S)(g:Nat)(S':Wd)(hm:dk S g=some S'):Calls prog 159 #[bR F,I g] w (ee fun w'=>At af F m w m w' S'):=by
 unfold dk fL at hm
 cases hx:S.gs[g]? with
 |none=>rw[hx]at hm;cases hm
 |some x=>
  rw[hx]at hm;simp only[km]at hm
  cases hm;have eM:=cA hx;have c3:=R.eu;obtain⟨a,c,c23⟩:=EH R hx;obtain⟨c2,f2⟩:=R.ef hx 2 _ rfl;have HR:=ag (At.refl R);by_cases h0:x.wakes=[]
  ·rw[h0]at c23;have A:=ag (HR.out.g hx {x with ae:=18} (q:=2) (v:=I 18));rw[aF h0];clear R hx h0;unfold bR;go_enter func159,ntmps159;go_wp2;go_end0;exact⟨rfl,A.out⟩
  ·have hl:0<x.wakes.length:=pd h0;have A:=ag (HR.out.g hx {x with ae:=17} (q:=2) (v:=I 17));rw[aE h0];clear R hx h0;unfold bR;go_enter func159,ntmps159;go_wp2;go_end0;exact⟨rfl,A.out⟩
theorem Le(R:bz af F w m S)(g s:Nat)(S':Wd)(hm:pair S g s=some S'):Calls prog 151 #[bR F,I g,I s] w (ee fun w'=>At af F m w m w' S'):=by
 unfold pair at hm;simp only[bW,cI]at hm;obtain⟨x,hx,sd,hs,z,hz,y,hy,hm⟩:=hm;have hz:=du hz;by_cases mh:z=g
 ·rw[aF mh]at hm;cases hm
 rw[aE mh]at hm
 cases hm;have eM:=cA hx;have Ay:z<S.gs.length:=cA hy;have mj:s<S.ah.length:=cA hs;have c3:=R.eu;have c9:=R.ed;have s1:=R.s hs 1 _ rfl;have s3:=R.s hs 3 _ rfl;have g10:=R.g hx 10 _ rfl;have g12:=R.g hx 12 _ rfl;have g13:=R.g hx 13 _ rfl;have z12:=R.g hy 12 _ rfl;have z13:=R.g hy 13 _ rfl;have z14:=R.g hy 14 _ rfl;have fr:=R.frozen R.aB.gs;have f1:=fr (g*25+12);have f2:=fr (g*25+13);have f3:=fr (z*25+12);have f4:=fr (z*25+13);have f5:=fr (z*25+14);have aU:=R.lt R.aB.al;have cm:=R.lt R.aB.gs;have fO:=R.lt R.aB.ah;have aY:=R.ne R.aB.al R.aB.gs;have dx:=R.ne R.aB.al R.aB.ah;have aZ:=R.ne R.aB.gs R.aB.al;have ez:=R.ne R.aB.gs R.aB.ah;have dz:=R.ne R.aB.ah R.aB.al;have eB:=R.ne R.aB.ah R.aB.gs;have A1:=(At.refl R).g hx {x with point:=x.t} (q:=12) (v:=I x.t)
 have A2:=A1.g (az hx) {x with point:=x.t,bF:=z} (q:=13) (v:=I z);have rN:(S.ay g {x with point:=x.t,bF:=z}).gs[z]?=some y:=by rw[Cw (dE mh)];exact hy
 rw[aA]at A2;have A3:=A2.g rN {y with point:=x.t} (q:=12) (v:=I x.t);have A4:=A3.g (az rN) {y with point:=x.t,bF:=g} (q:=13) (v:=I g);rw[aA]at A4;have A5:=A4.g (az rN) {y with point:=x.t,bF:=g,fire:=sd.case} (q:=14) (v:=I sd.case);rw[aA]at A5;rw[hz]at s1 ⊢;have AH:=ag A5;have o1:¬g*25+10=z*25+12:=by omega
 clear R hx hs hy hz fr A1 A2 A3 A4 A5 rN;unfold bR;go_enter func151,ntmps151;go_wp2_with fail
 go_quiet (fail);go_wp2;go_end0;exact⟨rfl,AH.out.aI⟩
end
end Go.Proofs.YtadifmnmfnihdaaGreat
