import Derived.Test.YtadifmnmfnihdaaGreatA01
import Derived.Test.YtadifmnmfnihdaaGreatA03
import Derived.Test.YtadifmnmfnihdaaGreatA04
set_option linter.all false
set_option maxRecDepth 100000
set_option maxHeartbeats 40000000
namespace Go.Proofs.YtadifmnmfnihdaaGreat
open Go.RowKit Mach Go.Proofs.Tryz
theorem EM{P:Program}{o:Oper}{a:Act}{K:Act→World→Prop}{Q:Exit→Act→World→Prop}(s x:Operand)(t:TypeId)(ho:o.op=.call {callee:=.builtin .append,args:=#[s,x],argTypes:=#[t,t]}){af:Nat}{e:TypeId}{i:TypeInfo}{z:Value}{size bytes:Nat}(ht:P.underlying t=some (.slice e))(hi:P.info? e=some i)(hz:i.zero=some z)(hsize:i.size=size)(hby:i.bytes=bytes)(hzs:z.cells.size=size)(hsz:0<size)(hbb:bytes≤1000){w2 W3:World}{us:Array Value}(hW:W3.heap=(w2.alloc (.cells us e)).heap)(hus:us.size=size)(h1:∀u∈us.toList,u.oneCell'=true)(v:Value)(n:Nat)(xs:List Value)(hs:a.eval s=v)(hown:w2.ownsRow af e size v n xs)(hx:a.eval x=.slice (some ⟨w2.heap.size,0,none⟩) 1 1)(hn:n<1000001)(hbase:af≤w2.heap.size)(h:∀g cap w',w'.ownsRow af e size (.slice (some ⟨g,0,none⟩) (n+1) cap) (n+1) (xs++us.toList)→W3.grownBy w' v.ownBlock→(v.ownBlock=some g∨W3.heap.size≤g)→K (a.put o.dst (.slice (some ⟨g,0,none⟩) (n+1) cap)) w'):o.wp P a W3 K Q:=by
 exact aW9
theorem gY{P:Program}{ops:Array Oper}{rest:List Oper}{o:Oper}{a:Act}{Q:Exit→Act→World→Prop}(nX:o.guard=none)(s x:Operand)(t:TypeId)(ho:o.op=.call {callee:=.builtin .append,args:=#[s,x],argTypes:=#[t,t]}){af:Nat}{e:TypeId}{i:TypeInfo}{z:Value}{size bytes:Nat}(ht:P.underlying t=some (.slice e))(hi:P.info? e=some i)(hz:i.zero=some z)(hsize:i.size=size)(hby:i.bytes=bytes)(hzs:z.cells.size=size)(hsz:0<size)(hbb:bytes≤1000){w2 W3:World}{us:Array Value}(hW:W3.heap=(w2.alloc (.cells us e)).heap)(hus:us.size=size)(h1:∀u∈us.toList,u.oneCell'=true)(v:Value)(n:Nat)(xs:List Value)(hs:a.eval s=v)(hown:w2.ownsRow af e size v n xs)(q:Nat)(hq:q=w2.heap.size)(hx:a.eval x=.slice (some ⟨q,0,none⟩) 1 1)(hn:n<1000001)(hbase:af≤w2.heap.size)(h:∀g cap w',w'.ownsRow af e size (.slice (some ⟨g,0,none⟩) (n+1) cap) (n+1) (xs++us.toList)→W3.grownBy w' v.ownBlock→(v.ownBlock=some g∨W3.heap.size≤g)→wpList P ops Q rest (a.put o.dst (.slice (some ⟨g,0,none⟩) (n+1) cap)) w'):wpList P ops Q (o::rest) a W3:=by
 subst hq;exact wpList_plain nX fun _ hK=>EM s x t ho ht hi hz hsize hby hzs hsz hbb hW hus h1 v n xs hs hown hx hn hbase fun g cap w' h2 h3 h4=>hK _ _ (h g cap w' h2 h3 h4)
theorem uS:(prog.info? 100).map (fun i=>(i.zero,i.size,i.bytes))=some (some (.agg #[.slice none 0 0,I 0,I 0,I 0,B false,I 0,B false,I 0,I 0,I 0,I 0,I 0,I 0,I 0,I 0,I 0,I 0,I 0,B false,I 0,.slice none 0 0,.slice none 0 0,.slice none 0 0,.slice none 0 0,I 0]),25,280):=kX
def aW0(h:Value):List Value:=[h,I 0,I 0,I 0,B false,I 0,B false,I (-1),I (-1),I (-1),I 0,I 0,I 0,I (-1),I (-1),I 0,I (-1),I 0,B false,I 0,.slice none 0 0,.slice none 0 0,.slice none 0 0,.slice none 0 0,I 0]
def AG(h:Value):List Value:=[h,I 0,I 0,I 0,B false,I 0,B false,I 0,I 0,I 0,I 0,I 0,I 0,I 0,I 0,I 0,I 0,I 0,B false,I 0,.slice none 0 0,.slice none 0 0,.slice none 0 0,.slice none 0 0,I 0]
theorem Lt(wb gb g n c:Nat)(a:Option Addr)(l ca:Nat)(w:World)(hg:g<n)(hn:n≤100)(c3:w.cell? ⟨wb,3,none⟩=some (.slice (some ⟨gb,0,none⟩) n c))(hc:∀j v,(AG (.slice a l ca))[j]?=some v→w.cell? ⟨gb,g*25+j,none⟩=some v)(hf:∀j,w.frozen? ⟨gb,j,none⟩=false):Calls prog 84 #[.pointer (some ⟨wb,0,none⟩),I g] w (ee fun w'=>w'=w.drew.setCells gb (g*25) (aW0 (.slice a l ca))):=by
 have g0:=hc 0 _ rfl;have g1:=hc 1 _ rfl;have g2:=hc 2 _ rfl;have g3:=hc 3 _ rfl;have g4:=hc 4 _ rfl;rw[Nat.add_zero]at g0;have HC:Hid (∀j,j<25→(w.cell? ⟨gb,g*25+j,none⟩).isSome=true):=fun j hj=>by obtain⟨v,hv⟩:∃v,(AG (.slice a l ca))[j]?=some v:=⟨_,fv (by simpa[AG]using hj)⟩;rw[hc j v hv];rfl
 have HF:Hid (∀j,w.frozen? ⟨gb,j,none⟩=false):=hf;obtain⟨w2,nt⟩:=dC (w.drew);have Rr:=ag nt;clear nt hc hf;go_enter func84,ntmps84;go_wp2;go_still_tail 24,kX;change wpList _ _ _ _ _ w.drew;rw[←Rr.out];have Rs:Hid (∀j,j<25→(w2.cell? ⟨gb,g*25+j,none⟩).isSome=true):=by rw[Rr.out];exact HC
 have Rt:Hid (∀j,w2.frozen? ⟨gb,j,none⟩=false):=by rw[Rr.out];exact HF
 clear HC HF g0 g1 g2 g3 g4 c3;refine cB rfl 100 (.tmp 34) (.tmp 33) rfl gb (g*25) _ rfl rfl kX (fun j hj=>Rs j hj) (fun j hj=>Rt _) bi9 ?_;go_wp2;go_end0;refine⟨rfl,?_⟩;rw[←Rr.out];rfl
theorem N6(h:Value):(AG h).length=25:=rfl
theorem Lu(h:Value):(aW0 h).length=25:=rfl
def fe:List Value→Nat→List Value→List Value
 |cs,_,[]=>cs
 |cs,off,v::vs=>fe (cs.set off v) (off+1) vs
theorem yG:∀(new old A B:List Value),old.length=new.length→fe (A++old++B) A.length new=A++new++B
 | [],old,A,B,h=>by have:old=[]:=xn h;subst this;rfl
 |v::vs,[],A,B,h=>bj5
 |v::vs,o::os,A,B,h=>by
  rw[fe];have e:(A++o::os++B).set A.length v=(A++[v])++os++B:=by rw[List.append_assoc,List.set_append_right _ _ cG];simp
  rw[e,show A.length+1=(A++[v]).length by simp,yG vs os (A++[v]) B bj3];simp
theorem cN.setCells{κ:Type}[DecidableEq κ]{lo:Nat}{w0:World}{aV:κ→Option Nat}{ty:κ→Option (Nat×Nat)}{cap:κ→Nat}{r:κ}{b:Nat}(hb:aV r=some b):∀(vs:List Value) (off:Nat) (w:World) (c:κ→List Value),cN lo w0 w aV ty cap c→cN lo w0 (w.setCells b off vs) aV ty cap (up c r (fe (c r) off vs))
 | [],off,w,c,H=>by
  have e:up c r (fe (c r) off [])=c:=by
   funext k;by_cases h:k=r
   ·subst h;rw[bq];rfl
   ·rw[aD _ _ h]
  rw[e];exact H
 |v::vs,off,w,c,H=>by
  have H1:=H.set (r:=r) (j:=off) (v:=v) hb;have H2:=cN.setCells hb vs (off+1) _ _ H1
  have e:up (up c r ((c r).set off v)) r (fe (up c r ((c r).set off v) r) (off+1) vs)=up c r (fe (c r) off (v::vs)):=by
   funext k;by_cases h:k=r
   ·subst h;rw[bq,bq,bq];rfl
   ·rw[aD _ _ h,aD _ _ h,aD _ _ h]
  rw[e]at H2;exact H2
structure rV{κ:Type}(lo:Nat)(w0 w:World)(p:List (List cu))(gs wk:κ)(H:Nat→List cu→Value)(wb:Nat)(Hz:κ→Option Nat)(TY:κ→Option (Nat×Nat))(Nn:κ→Nat)(C:κ→List Value)(j:Nat)(ga:Option Addr)(gc:Nat)(aV:κ→Option Nat)(cap:κ→Nat)(c:κ→List Value):Prop where
 own:cN lo w0 w aV TY cap c
 N7:∀k,k≠gs→aV k=Hz k∧cap k=Nn k
 Sn:∀k,k≠gs→k≠wk→c k=C k
 wk_:aV wk=some wb
 wc:c wk=(C wk).set 3 (.slice ga j gc)
 cU:Value.slice ga j gc=nG (aV gs) j (cap gs)
 row:c gs=bT (fun i l=>aW0 (H i l)) 0 (p.take j)
section
variable{κ:Type}[DecidableEq κ]{lo:Nat}{w0 w:World}{p:List (List cu)}{gs wk:κ}{H:Nat→List cu→Value}{wb:Nat}{Hz aV:κ→Option Nat}{TY:κ→Option (Nat×Nat)}{Nn cap:κ→Nat}{C c:κ→List Value}{j gc:Nat}{ga:Option Addr}
theorem rV.push(X:rV lo w0 w p gs wk H wb Hz TY Nn C j ga gc aV cap c)(cM:wk≠gs)(nI:TY gs=some (100,25)){l:List cu}{w2:World}{g cp:Nat}(hg:w.grownBy w2 (Value.slice ga j gc).ownBlock)(gp:(Value.slice ga j gc).ownBlock=some g∨w.heap.size≤g)(hown:w2.ownsRow lo 100 25 (.slice (some ⟨g,0,none⟩) (j+1) cp) (j+1) (c gs++AG (H j l))):∃c',cN lo w0 (w2.setCell ⟨wb,3,none⟩ (.slice (some ⟨g,0,none⟩) (j+1) cp)) (up aV gs (some g)) TY (up cap gs cp) c'∧(∀k,k≠gs→k≠wk→c' k=C k)∧c' wk=(C wk).set 3 (.slice (some ⟨g,0,none⟩) (j+1) cp)∧c' gs=bT (fun i l=>aW0 (H i l)) 0 (p.take j)++AG (H j l)∧(∀v,((C wk).set 3 (.slice ga j gc))[3]?=some v→w2.cell? ⟨wb,3,none⟩=some v)∧w2.frozen? ⟨wb,3,none⟩=false:=by
 have jz:(Value.slice ga j gc).ownBlock=aV gs:=by rw[X.cU,gV]
 rw[jz]at hg gp;have O:=X.own.row (r:=gs) (p:=(100,25)) (by intro q hq;rw[nI]at hq;exact(mx hq).symm) hg hown gp;have O2:=O.set (r:=wk) (b:=wb) (j:=3) (v:=.slice (some ⟨g,0,none⟩) (j+1) cp) bt6;refine⟨_,O2,fun k h1 h2=>?_,?_,?_,fun v hv=>?_,?_⟩
 ·rw[aD _ _ h2,aD _ _ h1];exact X.Sn k h1 h2
 ·rw[bq,aD _ _ cM,X.wc,my]
 ·rw[aD _ _ (dE cM),bq,X.row]
 ·exact O.cell (k:=wk) bt6 (by rw[aD _ _ cM,X.wc];exact hv)
 ·exact O.frozen (k:=wk) bt6 3
theorem rV.clear{l:List cu}(hl:p[j]?=some l)(cM:wk≠gs)(J0:Hz wk=some wb)(qw:∀k,k≠gs→aV k=Hz k∧cap k=Nn k){g cp:Nat}{c':κ→List Value}(O:cN lo w0 w (up aV gs (some g)) TY (up cap gs cp) c')(h1:∀k,k≠gs→k≠wk→c' k=C k)(h2:c' wk=(C wk).set 3 (.slice (some ⟨g,0,none⟩) (j+1) cp))(h3:c' gs=bT (fun i l=>aW0 (H i l)) 0 (p.take j)++AG (H j l)):∃tM pF c'',rV lo w0 (w.drew.setCells g (j*25) (aW0 (H j l))) p gs wk H wb Hz TY Nn C (j+1) (some ⟨g,0,none⟩) cp tM pF c'':=by
 have vy:=fm hl;have O2:=cN.setCells (r:=gs) (b:=g) (bq _ _ _) (aW0 (H j l)) (j*25) _ _ O.drew;have cP:(bT (fun i l=>aW0 (H i l)) 0 (p.take j)).length=j*25:=by rw[aV9 (k:=25) (fun _ _=>rfl),tC,Nat.min_eq_left oX]
 have e:fe (c' gs) (j*25) (aW0 (H j l))=bT (fun i l=>aW0 (H i l)) 0 (p.take (j+1)):=by
  rw[h3,ox hl,ni];generalize hA:bT (fun i l=>aW0 (H i l)) 0 (p.take j)=A at cP;have e2:bT (fun i l=>aW0 (H i l)) (0+(p.take j).length) [l]=aW0 (H j l):=by rw[show 0+(p.take j).length=j by rw[tC];omega];exact List.append_nil _
  rw[e2];have J8:(AG (H j l)).length=(aW0 (H j l)).length:=(N6 _).trans (Lu _).symm;generalize AG (H j l)=z at J8;generalize aW0 (H j l)=y at J8;have:=yG y z A [] J8;rw[List.append_nil,List.append_nil,cP]at this;exact this
 refine⟨_,_,_,⟨O2,fun k hk=>?_,fun k jg jO=>?_,?_,?_,?_,?_⟩⟩
 ·rw[aD _ _ hk,aD _ _ hk];exact qw k hk
 ·rw[aD _ _ jg];exact h1 k jg jO
 ·rw[aD _ _ cM,(qw wk cM).1];exact J0
 ·rw[aD _ _ cM];exact h2
 ·rw[bq,bq];rfl
 ·rw[bq];exact e
end
section
variable{af:Nat}{F:Fx}{w w0 w':World}{m m0:Mem}{S:Wd}
theorem At.Rw(A:At af F m0 w0 m w S){j:Nat}{x:gn}(hx:S.ah[j]?=some x)(y:gn):At af F m0 w0 m (w.setCells F.ah (j*7) [B y.cK,I y.g,I y.ch,I y.case,B y.cF,I y.v,B y.done]) (S.cJ j y):=by
 have g1:∀{T:Wd} {a b:gn},T.ah[j]?=some a→(T.cJ j b).ah[j]?=some b:=fun h=>NG h
 have s2:∀{T:Wd} {a b:gn},(T.cJ j a).cJ j b=T.cJ j b:=by intro T a b;simp[Wd.cJ,my]
 have A0:=A.s hx {x with cK:=y.cK} (q:=0) (v:=B y.cK) oX rfl;have A1:=A0.s (g1 hx) {x with cK:=y.cK,g:=y.g} (q:=1) (v:=I y.g) oX rfl;have A2:=A1.s (g1 (g1 hx)) {x with cK:=y.cK,g:=y.g,ch:=y.ch} (q:=2) (v:=I y.ch) oX rfl;have A3:=A2.s (g1 (g1 (g1 hx))) {x with cK:=y.cK,g:=y.g,ch:=y.ch,case:=y.case} (q:=3) (v:=I y.case) oX rfl;have A4:=A3.s (g1 (g1 (g1 (g1 hx)))) {x with cK:=y.cK,g:=y.g,ch:=y.ch,case:=y.case,cF:=y.cF} (q:=4) (v:=B y.cF) oX rfl;have A5:=A4.s (g1 (g1 (g1 (g1 (g1 hx))))) {x with cK:=y.cK,g:=y.g,ch:=y.ch,case:=y.case,cF:=y.cF,v:=y.v} (q:=5) (v:=I y.v) oX rfl;have A6:=A5.s (g1 (g1 (g1 (g1 (g1 (g1 hx)))))) y (q:=6) (v:=B y.done) oX rfl;simp only[s2]at A6;have e:w.setCells F.ah (j*7) [B y.cK,I y.g,I y.ch,I y.case,B y.cF,I y.v,B y.done]=((((((w.setCell ⟨F.ah,j*7+0,none⟩ (B y.cK)).setCell ⟨F.ah,j*7+1,none⟩ (I y.g)).setCell ⟨F.ah,j*7+2,none⟩ (I y.ch)).setCell ⟨F.ah,j*7+3,none⟩ (I y.case)).setCell ⟨F.ah,j*7+4,none⟩ (B y.cF)).setCell ⟨F.ah,j*7+5,none⟩ (I y.v)).setCell ⟨F.ah,j*7+6,none⟩ (B y.done):=by simp only[World.setCells,Nat.add_assoc,Nat.reduceAdd,Nat.add_zero]
 rw[e];exact A6
theorem At.res(A:At af F m0 w0 m w S){j:Nat}{x:bI}(hx:S.gs[j]?=some x)(y:nP):At af F m0 w0 m (((((w.setCell ⟨F.gs,j*25+15,none⟩ (I y.aJ)).setCell ⟨F.gs,j*25+16,none⟩ (I y.case)).setCell ⟨F.gs,j*25+17,none⟩ (I y.v)).setCell ⟨F.gs,j*25+18,none⟩ (B y.ok)).setCell ⟨F.gs,j*25+19,none⟩ (I y.n)) (S.ay j {x with res:=y}):=by
 have A0:=A.g hx {x with res:={x.res with aJ:=y.aJ}} (q:=15) (v:=I y.aJ);have A1:=A0.g (az hx) {x with res:={x.res with aJ:=y.aJ,case:=y.case}} (q:=16) (v:=I y.case);rw[aA]at A1;have A2:=A1.g (az hx) {x with res:={x.res with aJ:=y.aJ,case:=y.case,v:=y.v}} (q:=17) (v:=I y.v);rw[aA]at A2;have A3:=A2.g (az hx) {x with res:={x.res with aJ:=y.aJ,case:=y.case,v:=y.v,ok:=y.ok}} (q:=18) (v:=B y.ok);rw[aA]at A3;have A4:=A3.g (az hx) {x with res:=y} (q:=19) (v:=I y.n);rw[aA]at A4;exact A4
theorem BW(R:bz af F w m S){j:Nat}{x:gn}(hx:S.ah[j]?=some x):∀q,q<7→(w.cell? ⟨F.ah,j*7+q,none⟩).isSome=true:=fun q hq=>by
 obtain⟨v,hv⟩:∃v,(mg j x)[q]?=some v:=⟨_,fv (by show q<7;exact hq)⟩;rw[R.s hx q v hv];rfl
section
variable(A:At af F m0 w0 m w S)
include A
theorem SM{g:Nat}{l:Int}{S':Wd}(hm:Mach.lock S g l=some S')(hc:(dH S g).cases.length≤1000)(hx:∃x,S.gs[g]?=some x):Calls prog 155 #[bR F,I g,I l] w (ee fun w'=>At af F m0 w0 m w' S'):=
 (LA A.bj g l S' hm hc hx).mono fun e w' ⟨h1,h2⟩=>⟨h1,A.cont h2⟩
theorem C9(l who:Int):Calls prog 156 #[.pointer (some ⟨F.dY,0,none⟩),I l,I who] w fun e w'=>(∃b,e=.returned (.bool b))∧At af F m0 w0 m w' (free S l who):=
 (Lz A.bj l who).mono fun e w' ⟨h1,h2⟩=>⟨⟨_,h1⟩,A.cont h2⟩
theorem Kl(g:Int):Calls prog 157 #[.pointer (some ⟨F.dB,0,none⟩),I g] w fun e w'=>(∃b,e=.returned (.bool b))∧At af F m0 w0 m w' {S with ax:=(tD S.ax g).1}:=
 (LC A.bj g).mono fun e w' ⟨h1,h2⟩=>⟨⟨_,h1⟩,A.cont h2⟩
theorem OO(g:Int):Calls prog 160 #[.pointer (some ⟨F.dB,0,none⟩),I g] w fun e w'=>(∃b,e=.returned (.bool b))∧At af F m0 w0 m w' {S with ax:=(ready S.ax g).1}:=
 (Ik A.bj g).mono fun e w' ⟨h1,h2⟩=>⟨⟨_,h1⟩,A.cont h2⟩
theorem OP{g:Nat}{S':Wd}(hm:dk S g=some S'):Calls prog 159 #[bR F,I g] w (ee fun w'=>At af F m0 w0 m w' S'):=
 (uN A.bj g S' hm).mono fun e w' ⟨h1,h2⟩=>⟨h1,A.cont h2⟩
theorem OQ{g s:Nat}{d:Bool}{S':Wd}(hm:Mach.serve S g s d=some S'):Calls prog 152 #[bR F,I g,I s,.bool d] w (ee fun w'=>∃m',At af F m0 w0 m' w' S'):=
 (yT A.bj g s d S' hm).mono fun e w' ⟨h1,m',h2⟩=>⟨h1,m',A.cont h2⟩
theorem Wc{g:Nat}{lost Eh:Int}{S':Wd}(hm:rD S g lost Eh=some S'):Calls prog 99 #[bR F,I g,I lost,I Eh] w (ee fun w'=>At af F m0 w0 m w' S'):=
 (Ff A.bj g lost Eh S' hm).mono fun e w' ⟨h1,h2⟩=>⟨h1,A.cont h2⟩
theorem Fk(ok:S.Eg.Ok){g:Nat}(x:Nat)(hg:g<S.Eg.aC.length):Calls prog 158 #[.pointer (some ⟨F.Eg,0,none⟩),I g,I x] w fun e w'=>(∃b,e=.returned (.bool b))∧∃m',At af F m0 w0 m' w' {S with Eg:=(S.Eg.nh g x).1}:=by
 obtain⟨c,hc⟩:∃c,S.Eg.aC[g]?=some c:=⟨_,fv hg⟩
 cases hl:S.Eg.cK x with
 |true=>exact(IA A.bj ok g x c hc hl).mono fun e w' ⟨h1,m',h2⟩=>⟨⟨_,h1⟩,m',A.cont h2⟩
 |false=>
  have he:(S.Eg.nh g x).1=S.Eg:=by unfold fS.nh;simp only[hc,hl];simp
  rw[he];exact(OL A.bj ok g x hg hl).mono fun e w' ⟨h1,h2⟩=>⟨⟨_,h1⟩,m,A.cont h2⟩
end
theorem qk{S S':Wd}{k x:Int}(h:lh S k x=some S'):∃q b,S.aw.push k x=some (q,b)∧S'={S with aw:=q}:=by
 unfold lh at h
 cases hq:S.aw.push k x with
 |none=>rw[hq]at h;cases h
 |some q=>rw[hq]at h;cases h;exact⟨q.1,q.2,rfl,rfl⟩
theorem yZ(A:At af F m0 w0 m w S){k x:Int}{S':Wd}(h:lh S k x=some S'):Calls prog 103 #[.pointer (some ⟨F.aw,0,none⟩),I k,I x] w fun e w'=>(∃b,e=.returned (.bool b))∧At af F m0 w0 m w' S':=by
 obtain⟨q,b,hq,rfl⟩:=qk h;exact(Lp A.bj k x q b hq).mono fun e w' ⟨h1,h2⟩=>⟨⟨b,h1⟩,A.cont h2⟩
theorem ql{B B' e size n:Nat}{v:Value}{xs:List Value}(h:w.ownsRow B e size v n xs)(hB:B'≤B):w.ownsRow B' e size v n xs:=by
 obtain⟨h1,h2⟩:=h;refine⟨h1,?_⟩;rcases h2 with h2|⟨g,cap,cur,h3,h4,h5⟩
 ·exact .inl h2
 ·exact .inr ⟨g,cap,cur,h3,oX,h5⟩
theorem jo{b:Nat}{v0 v1 v2 v3 v4 v5 v6 v7:Value}{t:TypeId}{fr:Nat×Nat}(h:w.heap[b]?=some (.cells #[v0,v1,v2,v3,v4,v5,v6,v7] t fr)):w.cell? ⟨b,0,none⟩=some v0∧w.cell? ⟨b,1,none⟩=some v1∧w.cell? ⟨b,2,none⟩=some v2∧w.cell? ⟨b,3,none⟩=some v3∧w.cell? ⟨b,4,none⟩=some v4∧w.cell? ⟨b,5,none⟩=some v5∧w.cell? ⟨b,6,none⟩=some v6∧w.cell? ⟨b,7,none⟩=some v7:=by
 refine⟨?_,?_,?_,?_,?_,?_,?_,?_⟩<;>(rw[cr w b _ _ _ _ h];rfl)
theorem jD{b:Nat}{v0 v1 v2 v3 v4 v5:Value}{t:TypeId}{fr:Nat×Nat}(h:w.heap[b]?=some (.cells #[v0,v1,v2,v3,v4,v5] t fr)):w.cell? ⟨b,0,none⟩=some v0∧w.cell? ⟨b,1,none⟩=some v1∧w.cell? ⟨b,2,none⟩=some v2∧w.cell? ⟨b,3,none⟩=some v3∧w.cell? ⟨b,4,none⟩=some v4∧w.cell? ⟨b,5,none⟩=some v5:=by
 refine⟨?_,?_,?_,?_,?_,?_⟩<;>(rw[cr w b _ _ _ _ h];rfl)
theorem ao9{b:Nat}{v0 v1 v2 v3 v4 v5 v6:Value}{t:TypeId}{fr:Nat×Nat}(h:w.heap[b]?=some (.cells #[v0,v1,v2,v3,v4,v5,v6] t fr)):w.cell? ⟨b,0,none⟩=some v0∧w.cell? ⟨b,1,none⟩=some v1∧w.cell? ⟨b,2,none⟩=some v2∧w.cell? ⟨b,3,none⟩=some v3∧w.cell? ⟨b,4,none⟩=some v4∧w.cell? ⟨b,5,none⟩=some v5∧w.cell? ⟨b,6,none⟩=some v6:=by
 refine⟨?_,?_,?_,?_,?_,?_,?_⟩<;>(rw[cr w b _ _ _ _ h];rfl)
theorem At.stays{w2:World}{m2:Mem}{S2:Wd}(R:bz af F w m S)(B:At af F m w m2 w2 S2){b:Nat}{o:Obj}(h:w.heap[b]?=some o)(hn:∀r,m.aV r≠some b):w2.heap[b]?=some o∧∀r,m2.aV r≠some b:=by
 have dD:b<w.heap.size:=(dh h).1;refine⟨(B.mv.keep b dD hn).trans h,fun r e=>?_⟩;rcases B.mv.old r b e with⟨r0,h0⟩|h0
 ·exact hn r0 h0
 ·omega
theorem bz.iT(R:bz af F w m S){b:Nat}(h:w.heap.size≤b):∀r,m.aV r≠some b:=fun r e=>by have:=R.lt e;omega
structure Good(S:Wd):Prop where
 Eg:S.Eg.Ok
 aC:S.Eg.aC.length=S.gs.length
 au:∀(i:Nat) (r:Ring),S.au[i]?=some r→r.Ok
 wakes:∀(g:Nat) (x:bI),S.gs[g]?=some x→x.wakes.length≤1000000
 nA:S.aO.length=S.au.length
end
structure AB(af:Nat)(F:Fx)(m0:Mem)(w0:World)(m:Mem)(w:World)(S:Wd)(L:List (Nat×Obj)):Prop where
 at_:At af F m0 w0 m w S
 loc:∀p∈L,w.heap[p.1]?=some p.2∧∀r,m.aV r≠some p.1
section
variable{af:Nat}{F:Fx}{w w0 w':World}{m m0 m':Mem}{S S':Wd}{L:List (Nat×Obj)}
theorem AB.av(X:AB af F m0 w0 m w S L)(B:At af F m w m' w' S'):AB af F m0 w0 m' w' S' L:=
 ⟨X.at_.cont B,fun p hp=>At.stays X.at_.bj B (X.loc p hp).1 (X.loc p hp).2⟩
theorem AB.bj(X:AB af F m0 w0 m w S L):bz af F w m S:=X.at_.bj
theorem AB.aI(X:AB af F m0 w0 m w S L)(h1:w'.heap=w.heap:=by exact rfl)(h2:w'.os=w.os:=by exact rfl)(h3:w'.tape=w.tape:=by exact rfl)(h4:w'.output=w.output:=by exact rfl):AB af F m0 w0 m w' S L:=
 ⟨X.at_.aI h1 h2 h3 h4,fun p hp=>by rw[h1];exact X.loc p hp⟩
theorem AB.g(X:AB af F m0 w0 m w S L){j:Nat}{x:bI}(hx:S.gs[j]?=some x)(y:bI){q:Nat}{v:Value}(hq:q<25:=by omega)(hy:gk m j y=(gk m j x).set q v:=by exact rfl)(h1:y.ops=x.ops:=by exact rfl)(h2:y.aH=x.aH:=by exact rfl)(h3:y.aq=x.aq:=by exact rfl)(h4:y.bA=x.bA:=by exact rfl)(h5:y.wakes=x.wakes:=by exact rfl):AB af F m0 w0 m (w.setCell ⟨F.gs,j*25+q,none⟩ v) (S.ay j y) L:=
 X.av ((At.refl X.bj).g hx y hq hy h1 h2 h3 h4 h5)
theorem AB.s(X:AB af F m0 w0 m w S L){j:Nat}{x:gn}(hx:S.ah[j]?=some x)(y:gn){q:Nat}{v:Value}(hq:q<7)(hy:mg j y=(mg j x).set q v):AB af F m0 w0 m (w.setCell ⟨F.ah,j*7+q,none⟩ v) (S.cJ j y) L:=
 X.av ((At.refl X.bj).s hx y hq hy)
theorem AB.res(X:AB af F m0 w0 m w S L){j:Nat}{x:bI}(hx:S.gs[j]?=some x)(y:nP):AB af F m0 w0 m (((((w.setCell ⟨F.gs,j*25+15,none⟩ (I y.aJ)).setCell ⟨F.gs,j*25+16,none⟩ (I y.case)).setCell ⟨F.gs,j*25+17,none⟩ (I y.v)).setCell ⟨F.gs,j*25+18,none⟩ (B y.ok)).setCell ⟨F.gs,j*25+19,none⟩ (I y.n)) (S.ay j {x with res:=y}) L:=
 X.av ((At.refl X.bj).res hx y)
theorem AB.alloc(X:AB af F m0 w0 m w S L)(o:Obj):AB af F m0 w0 m (w.alloc o) S ((w.heap.size,o)::L):=by
 refine⟨X.at_.alloc o,fun p hp=>?_⟩;rcases iL.1 hp with h|h
 ·subst h;exact⟨dP w o,X.bj.iT cG⟩
 ·exact At.stays X.bj ((At.refl X.bj).alloc o) (X.loc p h).1 (X.loc p h).2
theorem AB.less(X:AB af F m0 w0 m w S L){L':List (Nat×Obj)}(h:∀p∈L',p∈L):AB af F m0 w0 m w S L':=⟨X.at_,fun p hp=>X.loc p (h p hp)⟩
theorem AB.iU(R:bz af F w m S):AB af F m w m w S []:=⟨At.refl R,fun p hp=>by cases hp⟩
section
variable{b:Nat}{o:Obj}(X:AB af F m0 w0 m w S ((b,o)::L))
include X
theorem AB.head:w.heap[b]?=some o:=(X.loc _ (rn ..)).1
theorem AB.ne{r:bH}{f:Nat}(h:m.aV r=some f):f≠b:=fun e=>(X.loc _ (rn ..)).2 r (by rw[←e];exact h)
end
theorem dm.shape{H:Nat}{v:Value}{cs:List Case}(h:dm H w v cs):∃a c,v=.slice a cs.length c:=by
 rcases h with⟨h1,h2⟩|⟨nb,cap,h1,h2,_⟩
 ·exact⟨none,0,by rw[h1,h2];rfl⟩
 ·exact⟨_,_,h2⟩
theorem SN(R:bz af F w m S)(g:Nat)(x:bI)(hx:S.gs[g]?=some x)(o:cu)(ca:Option Addr)(cn cc:Nat):Calls prog 146 #[.agg #[.pointer (some ⟨F.al,0,none⟩),I g,I o.ai,I o.ch,I o.n,I o.v,.slice ca cn cc,B o.dG]] w (eL (.pointer (some ⟨F.gs,g*25,none⟩)) fun w'=>At af F m w m w' S):=by
 have eM:=cA hx;have c3:=R.eu;have aU:=R.lt R.aB.al;have HA:=ag ((At.refl R).alloc (iY F g o ca cn cc));clear R hx;go_enter func146,ntmps146;go_wp2;go_quiet (fail);go_wp2;go_ret;exact⟨rfl,HA.out.aI⟩
theorem pn(X:AB af F m0 w0 m w S L)(g:Nat){x:bI}(hx:S.gs[g]?=some x)(o:cu)(ca:Option Addr)(cn cc:Nat):Calls prog 146 #[.agg #[.pointer (some ⟨F.al,0,none⟩),I g,I o.ai,I o.ch,I o.n,I o.v,.slice ca cn cc,B o.dG]] w (eL (.pointer (some ⟨F.gs,g*25,none⟩)) fun w'=>AB af F m0 w0 m w' S L):=
 (SN X.bj g x hx o ca cn cc).mono fun e w' ⟨h1,h2⟩=>⟨h1,X.av h2⟩
section
variable(R:bz af F w m S)(g:Nat)(x:bI)(hx:S.gs[g]?=some x)(o:cu)(ca:Option Addr)(cn cc:Nat)
include R g x hx o ca cn cc
theorem LW(p:Int):Calls prog 98 #[.agg #[.pointer (some ⟨F.al,0,none⟩),I g,I o.ai,I o.ch,I o.n,I o.v,.slice ca cn cc,B o.dG],I p] w (ee fun w'=>At af F m w m w' (S.ay g {x with ae:=p})):=by
 have HX:=ag hx;have HA:=ag ((AB.iU R).alloc (iY F g o ca cn cc));clear R hx;go_enter func98,ntmps98;go_wp2_with (go_at_call 146;refine(pn HA g HX o ca cn cc).mono ?_;rintro e w2 ⟨rfl,X2⟩;have R2:=X2.bj;have g2:=R2.g HX 2 _ rfl;have fg2:=R2.frozen R2.aB.gs (g*25+2);have A3:=X2.at_.g HX {x with ae:=p} (q:=2) (v:=I p);have vC:=ag A3;clear X2 R2 A3);go_end0;exact⟨rfl,vC⟩
theorem Fl(aJ:Int):Calls prog 148 #[.agg #[.pointer (some ⟨F.al,0,none⟩),I g,I o.ai,I o.ch,I o.n,I o.v,.slice ca cn cc,B o.dG],I aJ] w (ee fun w'=>At af F m w m w' (S.ay g {x with res:=bZ aJ})):=by
 have HX:=ag hx;have HA:=ag ((AB.iU R).alloc (iY F g o ca cn cc));clear R hx;go_enter func148,ntmps148;go_wp2_with (go_at_call 146;refine(pn HA g HX o ca cn cc).mono ?_;rintro e w2 ⟨rfl,X2⟩;have R2:=X2.bj;have g15:=R2.g HX 15 _ rfl;have ZB:=R2.frozen R2.aB.gs (g*25+15);have g16:=R2.g HX 16 _ rfl;have az3:=R2.frozen R2.aB.gs (g*25+16);have g17:=R2.g HX 17 _ rfl;have az4:=R2.frozen R2.aB.gs (g*25+17);have g18:=R2.g HX 18 _ rfl;have az5:=R2.frozen R2.aB.gs (g*25+18);have g19:=R2.g HX 19 _ rfl;have az6:=R2.frozen R2.aB.gs (g*25+19);have A3:=X2.at_.res HX (bZ aJ);have vC:=ag A3;clear X2 R2 A3);go_end0;exact⟨rfl,vC⟩
end
section
variable(X:AB af F m0 w0 m w S L)(g:Nat){x:bI}(hx:S.gs[g]?=some x)(o:cu)(ca:Option Addr)(cn cc:Nat)
include X g hx o ca cn cc
theorem ig(p:Int):Calls prog 98 #[.agg #[.pointer (some ⟨F.al,0,none⟩),I g,I o.ai,I o.ch,I o.n,I o.v,.slice ca cn cc,B o.dG],I p] w (ee fun w'=>AB af F m0 w0 m w' (S.ay g {x with ae:=p}) L):=
 (LW X.bj g x hx o ca cn cc p).mono fun e w' ⟨h1,h2⟩=>⟨h1,X.av h2⟩
theorem mG(aJ:Int):Calls prog 148 #[.agg #[.pointer (some ⟨F.al,0,none⟩),I g,I o.ai,I o.ch,I o.n,I o.v,.slice ca cn cc,B o.dG],I aJ] w (ee fun w'=>AB af F m0 w0 m w' (S.ay g {x with res:=bZ aJ}) L):=
 (Fl X.bj g x hx o ca cn cc aJ).mono fun e w' ⟨h1,h2⟩=>⟨h1,X.av h2⟩
end
theorem OU{ch:Int}(h:cZ S ch=true):∃c:Nat,ch=(c:Int)+1∧c<S.au.length:=by
 unfold cZ at h;simp only[qs,decide_eq_true_eq]at h;exact⟨(ch-1).toNat,oX,oX⟩
section
variable(R:bz af F w m S)
include R
theorem bz.iJ{c:Nat}{r:Ring}(h:S.au[c]?=some r):∃rr rb,m.aV .au=some rr∧m.aV (.eU c)=some rb∧w.cell? ⟨F.al,5,none⟩=some (.slice (some ⟨rr,0,none⟩) S.au.length (m.cap .au))∧w.cell? ⟨rr,c,none⟩=some (.pointer (some ⟨rb,0,none⟩)):=by
 have hc:c<S.au.length:=cA h;obtain⟨rr,pL⟩:=R.has (r:=.au) (by simp only[aj];intro e;rw[List.map_eq_nil_iff,List.range_eq_nil]at e;omega);obtain⟨rb,fA⟩:=R.has (r:=.eU c) bq5;refine⟨rr,rb,pL,fA,by rw[←Mem.de pL];exact R.qx,R.cell pL ?_⟩;simp only[aj,na,List.getElem?_range hc,km];rw[Mem.lz fA]
theorem bz.ka{c:Nat}{b:Bool}(h:S.aO[c]?=some b):∃cb,m.aV .aO=some cb∧w.cell? ⟨F.al,6,none⟩=some (.slice (some ⟨cb,0,none⟩) S.aO.length (m.cap .aO))∧w.cell? ⟨cb,c,none⟩=some (B b):=by
 have hc:c<S.aO.length:=cA h;obtain⟨cb,fP⟩:=R.has (r:=.aO) (by simp only[aj];intro e;have:=congrArg List.length e;simp at this;rw[this]at hc;simp at hc);exact⟨cb,fP,by rw[←Mem.de fP];exact R.Cv,R.cell fP bq5⟩
theorem Dc(ch:Int)(n:Nat):Calls prog 138 #[.pointer (some ⟨F.al,0,none⟩),I ch] (w.drewN n) fun e w'=>e=.returned (.bool (cZ S ch))∧w'=w.drewN n:=
 (gJ (w:=w.drewN n) (R.heap fun _ _ _=>rfl) ch).mono fun e w' ⟨h1,h2⟩=>⟨h1,h2.symm⟩
end
theorem qI(aG:Good S){ch:Int}(h:cZ S ch=true):∃c b,ch=((c:Nat):Int)+1∧S.aO[c]?=some b∧dK S ch=b:=by
 obtain⟨c,rfl,hc⟩:=OU h;obtain⟨b,hb⟩:∃b,S.aO[c]?=some b:=⟨_,fv (by rw[aG.nA];exact hc)⟩;refine⟨c,b,rfl,hb,?_⟩;unfold dK;rw[h,show(c:Int)+1-1=(c:Int)by omega,eR,hb];rfl
theorem Dd(R:bz af F w m S)(aG:Good S)(g:Nat)(o:cu)(bO:eX o.ch)(ca:Option Addr)(cn cc:Nat):Calls prog 147 #[.agg #[.pointer (some ⟨F.al,0,none⟩),I g,I o.ai,I o.ch,I o.n,I o.v,.slice ca cn cc,B o.dG]] w (eL (.bool (dK S o.ch)) fun w'=>At af F m w m w' S):=by
 have HX:=ag ((AB.iU R).alloc (.cells #[.pointer (some ⟨F.al,0,none⟩),I g,I o.ai,I o.ch,I o.n,I o.v,.slice ca cn cc,B o.dG] 173))
 cases hm:cZ S o.ch with
 |false=>
  have gm:dK S o.ch=false:=by unfold dK;rw[hm];rfl
  rw[gm];have HM:=ag (fun n=>Dc HX.out.bj o.ch n);rw[hm]at HM;clear R aG hm gm;go_enter func147,ntmps147;go_wp2_with fail
  go_quiet ((go_at_call 138;exact Calls.quiet_of_same (HM _)));go_wp2;go_ret;exact⟨rfl,HX.out.at_.aI⟩
 |true=>
  obtain⟨c,b,hc,hb,gm⟩:=qI aG hm;rw[gm];obtain⟨cb,fP,c6,cx⟩:=R.ka hb;have De:c<S.aO.length:=cA hb;have aU:=R.lt R.aB.al;have EX:=R.lt fP;have HM:=ag (fun n=>Dc HX.out.bj o.ch n);rw[hm]at HM;have hs:IntKind.i64.wrap ((c:Int)+1-1)=(c:Int):=bv4
  rw[hc]at HM HX ⊢;have xz:(c:Int)+1≤1000000000:=oX
  clear R aG hm gm hb fP hc bO;go_enter func147,ntmps147;go_wp2_with fail
  go_quiet ((go_at_call 138;exact Calls.quiet_of_same (HM _)));go_wp2;go_ret;exact⟨rfl,HX.out.at_.aI⟩
theorem qJ(R:bz af F w m S)(aG:Good S)(ch:Int)(bO:eX ch):Calls prog 162 #[bR F,I ch] w (eL (.bool (dK S ch)) fun w'=>w=w'):=by
 have HM:=ag (gJ R ch)
 cases hm:cZ S ch with
 |false=>
  have gm:dK S ch=false:=by unfold dK;rw[hm];rfl
  rw[gm];rw[hm]at HM;clear R aG hm gm;unfold bR;go_enter func162,ntmps162;go_wp2_with (go_at_call 138;refine HM.out.mono ?_;rintro e w' ⟨rfl,rfl⟩);go_ret;exact⟨rfl,rfl⟩
 |true=>
  obtain⟨c,b,hc,hb,gm⟩:=qI aG hm;rw[gm];obtain⟨cb,fP,c6,cx⟩:=R.ka hb;have De:c<S.aO.length:=cA hb;rw[hm]at HM;have hs:IntKind.i64.wrap ((c:Int)+1-1)=(c:Int):=bv4
  subst hc;clear R aG hm gm hb fP;unfold bR;go_enter func162,ntmps162;go_wp2_with (go_at_call 138;refine HM.out.mono ?_;rintro e w' ⟨rfl,rfl⟩);go_ret;exact⟨rfl,rfl⟩
section
variable(ch:Int)(bO:eX ch)
include ch bO
theorem xB(w:World):Calls prog 167 #[I ch] w (eL (I (2*ch-2)) fun w'=>w=w'):=by
 go_enter func167,ntmps167;exact aW5
theorem tp(w:World):Calls prog 164 #[I ch] w (eL (I (2*ch-1)) fun w'=>w=w'):=by
 go_enter func164,ntmps164;exact aW5
theorem kh(w:World):Calls prog 176 #[I ch] w (eL (I (2*ch-2)) fun w'=>w=w'):=by
 go_enter func176,ntmps176;exact aW5
theorem aH9(w:World):Calls prog 177 #[I ch] w (eL (I (2*ch-1)) fun w'=>w=w'):=by
 go_enter func177,ntmps177;exact aW5
end
end
theorem run_loadVar_mid{P:Program}(w:World)(b off:Nat)(ty:TypeId)(cs:Array Value)(d:TypeDesc)(hc:∀j v,cs[j]?=some v→w.cell? ⟨b,off+j,none⟩=some v)(hu:P.underlying ty=some d)(hd:(match d with| .struct _| .array _ _=>true|_=>false)=true)(hi:(P.info? ty).map (·.size)=some cs.size):(loadVar ty ⟨b,off,none⟩).run P w=.ok (.agg cs) w:=by
 have hl:(loadCells ⟨b,off,none⟩ cs.toList.length).run P w=.ok cs.toList.toArray w:=
  run_loadCells_list (P:=P) w ⟨b,off,none⟩ cs.toList (fun j v hv=>by rw[Addr.add_lit];exact hc j v (by simpa using hv))
 cases hq:P.info? ty with
 |none=>simp[hq]at hi
 |some i=>
  have hs:i.size=cs.size:=by simpa[hq]using hi
  have ai5:(isAgg ty).run P w=.ok true w:=by
   unfold isAgg;rw[Sem.run_bind,run_underlying hu w]
   cases d<;>simp_all
  simp only[Array.length_toList,Array.toArray_toList]at hl;simp[loadVar,Sem.run_bind,ai5,sizeOf,typeInfo,hq,hs,hl]
section
variable{P:Program}{ops:Array Oper}{rest:List Oper}{o:Oper}{a:Act}{w:World}{Q:Exit→Act→World→Prop}(nX:o.guard=none)(ty:TypeId)
include nX ty
theorem wpList_load_mid(x:Operand)(ho:o.op=.load ty x)(b off:Nat)(hx:a.eval x=.pointer (some ⟨b,off,none⟩))(cs:Array Value)(hc:∀j v,cs[j]?=some v→w.cell? ⟨b,off+j,none⟩=some v)(hu:∃d,P.underlying ty=some d∧(match d with| .struct _| .array _ _=>true|_=>false)=true)(hi:(P.info? ty).map (·.size)=some cs.size)(h:wpList P ops Q rest (a.put o.dst (.agg cs)) w):wpList P ops Q (o::rest) a w:=by
 obtain⟨d,hu,hd⟩:=hu
 have hr:(loadVar ty ⟨b,off,none⟩).run P w=.ok (.agg cs) w:=by
  exact ba7
 refine wpList_plain nX fun _ hK=>?_
 unfold Oper.wp execOp;simp only[ho,hx,Instr.loadAt,Instr.sureAddr,Sem.run_bind,Sem.run_pure,Result.andThen_ok,hr];exact hK _ _ h
theorem df(x y:Operand)(ho:o.op=.store ty x y)(n:Nat)(hn:w.heap.size=n)(c c':Array Value)(hx:a.eval x=.pointer (some ⟨n,0,none⟩))(hy:a.eval y=.agg c')(hi:(P.info? ty).map (·.size)=some c'.size)(hs:c.size=c'.size)(h1:c'.all (·.oneCell')=true)(h:wpList P ops Q rest (a.put o.dst undef) (w.alloc (.cells c' ty))):wpList P ops Q (o::rest) a (w.alloc (.cells c ty)):=by
 subst hn;refine wpList_plain nX fun _ hK=>?_
 unfold Oper.wp execOp;simp only[ho,hx,hy,Instr.storeAt,Instr.sureAddr,Sem.run_bind,Sem.run_pure,Result.andThen_ok,run_storeVar_new w ty c c' hi hs h1];exact hK _ _ h
end
theorem mC:∃d,prog.underlying 100=some d∧(match d with| .struct _| .array _ _=>true|_=>false)=true:=by
 have h:(match prog.underlying 100 with|some d=>(match d with| .struct _| .array _ _=>true|_=>false)|none=>false)=true:=kX
 cases hd:prog.underlying 100 with
 |none=>rw[hd]at h;cases h
 |some d=>rw[hd]at h;exact⟨d,rfl,h⟩
theorem fE:(prog.info? 100).map (·.size)=some 25:=kX
theorem Ia(w:World)(o1 o2:Obj):((w.alloc o1).alloc o2).heap[w.heap.size]?=some o1:=by
 rw[gf (w.alloc o1) o2 w.heap.size sX];exact dP w o1
theorem Ob:∃d,prog.underlying 46=some d∧(match d with| .struct _| .array _ _=>true|_=>false)=true:=by
 have h:(match prog.underlying 46 with|some d=>(match d with| .struct _| .array _ _=>true|_=>false)|none=>false)=true:=kX
 cases hd:prog.underlying 46 with
 |none=>rw[hd]at h;cases h
 |some d=>rw[hd]at h;exact⟨d,rfl,h⟩
theorem vS:(prog.info? 46).map (·.size)=some 13:=kX
theorem ER{fn:Func}{p:Tmp}(h:fn.results=#[.cell p 46])(tmps:Array Value)(w:World)(b:Nat)(v0 v1 v2 v3 v4 v5 v6 v7 v8 v9 v10 v11 v12:Value)(fr:Nat×Nat)(hp:tmps.getD p undef=.pointer (some ⟨b,0,none⟩))(hg:w.heap[b]?=some (.cells #[v0,v1,v2,v3,v4,v5,v6,v7,v8,v9,v10,v11,v12] 46 fr)):(results fn tmps).run prog w=.ok (.agg #[v0,v1,v2,v3,v4,v5,v6,v7,v8,v9,v10,v11,v12]) w:=by
 obtain⟨d,hu,hd⟩:=Ob;have vT:tmps[p]?.getD undef=.pointer (some ⟨b,0,none⟩):=by simpa using hp
 have hr:(loadVar 46 ⟨b,0,none⟩).run prog w=.ok (.agg #[v0,v1,v2,v3,v4,v5,v6,v7,v8,v9,v10,v11,v12]) w:=by
  cases d with
  |struct f=>exact run_loadVar_row w b 46 46 _ fr _ hg hu rfl vS
  |array f e=>exact run_loadVar_row w b 46 46 _ fr _ hg hu rfl vS
  |_=>cases hd
 simp[results,h,vT,asAddr,hr]
section
variable{af:Nat}{F:Fx}{w w0 w':World}{m m0 m':Mem}{S S':Wd}{L:List (Nat×Obj)}
def YS(x:Ex):Value:=.agg #[I x.g,I x.op,I x.call,I x.bJ,I x.point,I x.bF,I x.fire,I x.re,I x.res.aJ,I x.res.case,I x.res.v,B x.res.ok,I x.res.n]
theorem Lx(R:bz af F w m S)(g:Nat)(x:bI)(hx:S.gs[g]?=some x)(re:Int):Calls prog 144 #[bR F,I g,I re] w (eL (YS (qu x g re)) fun w'=>At af F m w m w' S):=by
 have eM:=cA hx;have c3:=R.eu;obtain⟨aU,cm,aY,aZ⟩:=R.pB;obtain⟨cs,fa⟩:∃cs:Array Value,cs=#[m.cU (.ops g) x.ops.length,I x.at_,I x.ae,I x.bU,B x.token,I x.call,B x.bk,I x.aN,I x.bY,I x.br,I x.t,I x.bJ,I x.point,I x.bF,I x.fire,I x.res.aJ,I x.res.case,I x.res.v,B x.res.ok,I x.res.n,m.cU (.aH g) x.aH.length,m.cU (.aq g) x.aq.length,m.cU (.bA g) x.bA.length,m.cU (.wakes g) x.wakes.length,I x.k]:=⟨_,rfl⟩
 have ES:Hid (cs.all (·.oneCell')=true):=by
  rw[fa];have h:∀r n,(m.cU r n).oneCell'=true:=fun r n=>by unfold Mem.cU;cases m.aV r<;>rfl
  have hI:∀n,(I n).oneCell'=true:=fun _=>rfl
  have hB:∀n,(B n).oneCell'=true:=fun _=>rfl
  refine ag ?_;simp only[List.all_toArray,List.all_cons,List.all_nil,h,hI,hB,Bool.and_self]
 have HC:Hid (∀j v,cs[j]?=some v→w.cell? ⟨F.gs,g*25+j,none⟩=some v):=fun j v hv=>R.g hx j v (by rw[show cs=(gk m g x).toArray from fa]at hv;simpa only[List.getElem?_toArray]using hv)
 have HS:Hid (cs.size=25):=by rw[fa];rfl
 have HA:=ag (At.refl R);have BJ:=ag fa;clear R hx fa;unfold bR;go_enter func144,ntmps144;go_upto_region 1 with fail
 repeat(fail_if_success (refine wpList_load_mid rfl 100 (.tmp 13) rfl F.gs (g*25) rfl cs ?_ ?_ ?_ ?_));go_step
 refine wpList_load_mid rfl 100 (.tmp 13) rfl F.gs (g*25) rfl cs ?_ mC (by rw[HS.out];exact fE) ?_
 ·intro j v hv;rw[kZ (w:=w) (gf w _ _ cm)];exact HC j v hv
 go_step;go_step;go_step;refine df rfl 100 (.tmp 7) (.tmp 14) rfl (w.heap.size+1) sX _ cs rfl rfl (by rw[HS.out];exact fE) (by rw[HS.out];rfl) ES ?_;rw[BJ.out];obtain⟨v0,Rv⟩:∃v,v=m.cU (.ops g) x.ops.length:=⟨_,rfl⟩;obtain⟨v20,YT⟩:∃v,v=m.cU (.aH g) x.aH.length:=⟨_,rfl⟩;obtain⟨v21,YU⟩:∃v,v=m.cU (.aq g) x.aq.length:=⟨_,rfl⟩;obtain⟨v22,YV⟩:∃v,v=m.cU (.bA g) x.bA.length:=⟨_,rfl⟩;obtain⟨v23,YW⟩:∃v,v=m.cU (.wakes g) x.wakes.length:=⟨_,rfl⟩;rw[←Rv,←YT,←YU,←YV,←YW];clear Rv YT YU YV YW HC ES BJ HS;go_wp2;refine bodyPost_ret (ER rfl _ _ w.heap.size _ _ _ _ _ _ _ _ _ _ _ _ _ (0,0) rfl (Ia w _ _)) rfl ?_;refine⟨rfl,?_⟩;exact(HA.out.alloc _).alloc _
theorem kx{ch:Int}{c:Nat}{r:Ring}(h:kq S ch=some (c,r)):ch=(c:Int)+1∧S.au[c]?=some r:=by
 unfold kq at h;simp only[bW,cI]at h;obtain⟨c',h1,r',h2,h3⟩:=h
 cases h3;have:=du h1;exact⟨oX,h2⟩
theorem SP(X:AB af F m0 w0 m w S L){i rb:Nat}{r:Ring}(h:S.au[i]?=some r)(fA:m.aV (.eU i)=some rb):Calls prog 204 #[.pointer (some ⟨rb,0,none⟩)] w (eL (.bool r.full) fun w'=>AB af F m0 w0 m w' S L):=
 (vO X.bj h fA).mono fun e w' ⟨h1,n,h2⟩=>⟨h1,by subst h2;exact X.aI⟩
theorem ZD(R:bz af F w m S)(k:Int)(n:Nat):Calls prog 205 #[.pointer (some ⟨F.aw,0,none⟩),I k] (w.drewN n) fun e w'=>e=.returned (I (S.aw.len k))∧w'=w.drewN n:=
 (By (w:=w.drewN n) (R.heap fun _ _ _=>rfl) k).mono fun e w' ⟨h1,h2⟩=>⟨h1,h2.symm⟩
theorem lW(R:bz af F w m S)(ch:Int)(bO:eX ch)(b:Bool)(hm:iX S ch=some b):Calls prog 161 #[bR F,I ch] w (eL (.bool b) fun w'=>∃n,w'=w.drewN n):=by
 have HM:=ag (gJ R ch);unfold iX at hm
 cases gv:cZ S ch with
 |false=>
  rw[aF gv]at hm
  cases hm;rw[gv]at HM;clear R gv;unfold bR;go_enter func161,ntmps161;go_wp2_with (go_at_call 138;refine HM.out.mono ?_;rintro e w' ⟨rfl,rfl⟩);go_ret;exact⟨rfl,0,rfl⟩
 |true=>
  rw[aE (by simp[gv])]at hm;rw[gv]at HM;simp only[bW,cI]at hm;obtain⟨⟨c,r⟩,tS,hm⟩:=hm;obtain⟨Wi,hr⟩:=kx tS;subst Wi;clear tS;obtain⟨rr,rb,pL,fA,c5,cp⟩:=R.iJ hr;obtain⟨Hw,gr,a,cc,hh,k0,k1,k2,_⟩:=R.eU hr;rw[fA]at gr
  cases gr;have gm:c<S.au.length:=cA hr;have hs:IntKind.i64.wrap ((c:Int)+1-1)=(c:Int):=bv4
  have c8:=R.dR;have HL:=ag (fun n=>ZD R (2*((c:Int)+1)-1) n);obtain⟨n,hn⟩:=dC (r.places.length);unfold Ring.room at hm;rw[←hn]at k0 hm;by_cases hp:(0:Int)<(n:Int)
  ·rw[aF hp]at hm
   cases hm;have vT:0<n:=oX;clear R hr pL fA hh hn gv;unfold bR;go_enter func161,ntmps161;go_wp2_with (first|(go_at_call 138;refine HM.out.mono ?_;rintro e w' ⟨rfl,rfl⟩)|go_in);go_ret;exact⟨rfl,0,rfl⟩
  ·rw[aE hp]at hm;obtain rfl:n=0:=by omega
   have hb:b=decide (0<S.aw.len (2*((c:Int)+1)-1)):=by
    have e:(2*((c:Int)+1)-1)=2*((c:Int)+1)-1:=rfl
    cases hm;rfl
   obtain⟨q,hq⟩:=dC (S.aw.len (2*((c:Int)+1)-1));rw[←hq]at HL hb;subst hb;obtain⟨kk,kE⟩:=dC ((2*((c:Int)+1)-1));rw[←kE]at HL;have HSN:=ag (fun W=>tp ((c:Int)+1) bO W);rw[←kE]at HSN;clear R hr pL fA hh hn gv hm hq kE;unfold bR;go_enter func161,ntmps161;go_wp2_with (first|(go_at_call 138;refine HM.out.mono ?_;rintro e w' ⟨rfl,rfl⟩)|go_in);go_quiet ((first|(go_at_call 164;exact Calls.quiet_of_same ((HSN _).mono fun _ _ h=>⟨h.1,h.2.symm⟩))|(go_at_call 205;exact Calls.quiet_of_same (HL _))));go_wp2;go_ret;exact⟨rfl,_,rfl⟩
end
end Go.Proofs.YtadifmnmfnihdaaGreat
