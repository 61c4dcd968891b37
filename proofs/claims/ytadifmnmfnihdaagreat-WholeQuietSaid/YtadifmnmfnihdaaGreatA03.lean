import Derived.Test.YtadifmnmfnihdaaGreatA01
import Derived.Test.YtadifmnmfnihdaaGreatA02
set_option linter.all false
set_option maxRecDepth 100000
set_option maxHeartbeats 40000000
namespace Go.Proofs.YtadifmnmfnihdaaGreat
open Go.RowKit Mach Go.Proofs.Tryz
variable{b n z:Nat}{G:Fx}{v u f w':World}{D Q:Mem}{t E:Wd}{e:bI}{Y:Int}{T:fE}{Z:Bool}{J:bi}{a:Value}
theorem mF{E:Wd}(h:fZ E Y=t):∃q b,E.ef.drop Y=some (q,b)/\t={E with ef:=q}:=by
 unfold fZ at h
 cases a:E.ef.drop Y with
 |none=>rw[a]at h;cases h
 |some q=>rw[a]at h;cases h;exact⟨q.1,q.2,ii,ii⟩
theorem kv(A:At n G Q f D u E)(h:fZ E Y=t):gt 150 #[G.ef,Y] u λe a=>(∃b,e=Value.bool b)/\At n G Q f D a t:=by
 obtain⟨q,b,c,rfl⟩:=mF h;exact(LO A.bj Y q b c).mono λe a ⟨d,g⟩=>⟨⟨b,d⟩,A.cont g⟩
theorem Kh(A:At n G Q f D u E){s:Nat}(h:pair E b s=t):gt 151 #[bR G,I b,I s] u (ee λa=>At n G Q f D a t):=
 (Le A.bj b s t h).mono λe a ⟨c,d⟩=>⟨c,A.cont d⟩
theorem Nb(h:Gt E b Y=t):∃x,E.gs[b]?=some x/\t=E.ay b {x with ae:=Y}:=by
 unfold Gt fL at h;grind
theorem LP(R:bz n G u D E)(g:Nat)(k i hand:Int)(C:Wd)(H:Bool)(a:Mach.take E g k i hand=(C,H)):gt 96 #[bR G,I g,k,i,hand] u (eL (.bool H) λj=>At n G D u D j C):=by
 have c:=ag (nk R k);have o:=bM3;have:=R.eu;have:=R.dR;have:=R.ax7;have:=R.dM;unfold Mach.take at a;by_cases l:(E.ef.first k).2=false
 .rw[aF l]at a
  cases a;rw[l]at c;unfold bR;go_enter func96,ntmps96;go_wp2_with (go_at_call 149;refine c.out.mono ?_;rintro e j ⟨rfl,rfl⟩);go_ret;exact⟨ii,o⟩
 rw[aE l]at a;have O:(E.ef.first k).2=true:=by simpa using l
 simp[bW,cI]at a;let⟨s,p,x,hx,J,K,a⟩:=a;have p:=du p;rw[O,p]at c;have:=bM1;have:s<E.ah.length:=um K;obtain⟨g2,xV⟩:=bM2;obtain⟨g9,Rz⟩:=bO2;let⟨T,Zv⟩:=R.ps hx 10 rfl;have:=R.s K 3 _ ii;obtain⟨aU,Gu,fO,aY,dx,aZ,U,dz,eB⟩:=bM4;by_cases r:0<=J.case
 .rw[aF r]at a
  cases a;have y:=o.out.g hx {x with br:=s} (q:=9) (v:=I s)
  have d:=y.g (az hx) {x with br:=s,ae:=i} (q:=2) (v:=I i);rw[aA]at d;have z:=ag d;unfold bR;go_enter func96,ntmps96;go_wp2_with (go_at_call 149;refine c.out.mono ?_;rintro e j ⟨rfl,rfl⟩);go_ret;exact⟨ii,z⟩
 rw[aE r]at a;simp only[cI]at a;let⟨S3,W,X,Y,a⟩:=a
 cases A:Gt X g hand with
 |none=>rw[A]at a;cases a
 |some S5=>
  rw[A]at a
  cases a;obtain⟨Z,vB,rfl⟩:=Nb A;have:decide (0<=J.case)=false:=by simpa using r
  have y:=o.out.g hx {x with br:=s} (q:=9) (v:=I s);have d:=y.g (az hx) {x with br:=s,t:=E.av} (q:=10) (v:=I E.av);rw[aA]at d;have z:=ag d;let⟨H3,H4,L⟩:=ij W Y vB;unfold bR;go_enter func96,ntmps96;go_wp2_with (first|(go_at_call 149;refine c.out.mono ?_;rintro e j ⟨rfl,rfl⟩)|(go_at_call 150;refine(kv z H3).mono ?_;rintro e w2 ⟨⟨b,rfl⟩,M⟩;have vC:=ag M;clear M)|(go_at_call 151;refine(Kh vC.out H4).mono ?_;rintro e w3 ⟨rfl,B⟩;have R4:=B.bj;have:=R4.g L 2 _ ii;have:=bO8;have N:=B.g L {Z with ae:=hand} (q:=2) (v:=I hand);have vV:=ag N;clear B N R4));go_ret;exact⟨ii,vV⟩
theorem Ff(R:bz n G u D E)(g:Nat)(lost c:Int)(A:Wd)(a:rD E g lost c=A):gt 99 #[bR G,I g,lost,c] u (ee λM=>At n G D u D M A):=by
 have C:=bM3;have:=R.eu;have:=R.dR;have:=R.ax7;have:=R.dM;unfold rD at a;simp only[bW,cI]at a;let⟨x,hx,s,l,sd,H,z,o,y,p,a⟩:=a;have l:=du l;have o:=du o;by_cases r:z=g
 .rw[aF r]at a;cases a
 rw[aE r]at a;have:=bM1;have:z<E.gs.length:=um p;have:s<E.ah.length:=um H;obtain⟨N,Rz⟩:=bO2;let⟨O,Zv⟩:=R.ps hx 10 rfl;obtain⟨g2,xV⟩:=bM2;let⟨J,T⟩:=R.ps p 6 rfl;have U:=R.s H 1 _ ii;obtain⟨aU,Gu,fO,aY,dx,aZ,W,dz,eB⟩:=bM4;have:¬z*25+6=g*25+10:=oX
 have:¬g*25+10=z*25+6:=oX
 rw[l]at N;rw[o]at U;by_cases d:y.aR=true
 .rw[aF d]at a;simp[cI]at a;let⟨X,K,a⟩:=a
  cases a;rw[d]at J;have Y:=ag K;have Z:X.gs[g]?=x:=by obtain⟨q,b,_,rfl⟩:=mF K;exact hx
  have i:=ag Z;unfold bR;go_enter func99,ntmps99;go_wp2_with fail
  go_quiet (fail);go_wp2_with (go_at_call 150;(refine(kv C.out.aI Y).mono ?_;rintro e w2 ⟨⟨b,rfl⟩,L⟩;have R3:=L.bj;have:=R3.g i 9 _ ii;have:=R3.frozen R3.aB.gs (g*25+9);have p2:=R3.g i 2 _ ii;have wW:=bO1;have vC:=ag L));refine UV (ad8 ii _ _ _) ii ?_;have j:=vC.out.g i {x with br:= -1} (q:=9) (v:=I (-1));have k:=j.g (az i) {x with br:= -1,ae:=lost} (q:=2) (v:=I lost);rw[aA]at k;exact⟨ii,k⟩
 rw[aE d]at a;have K:y.aR=false:=by simpa using d
 rw[K]at J;simp[cI]at a;let⟨S4,L,a⟩:=a;obtain⟨X,Y,rfl⟩:=Nb a;have Z:=C.out.g p {y with aR:=true} (q:=6) (v:=B true);have eE:(E.ay z {y with aR:=true}).gs[g]?=x:=by rw[Cw r];exact hx
 have A2:=Z.g eE {x with t:=E.av} (q:=10) (v:=I E.av);have HA:=ag A2;let⟨H4,i⟩:=dA L Y;unfold bR;go_enter func99,ntmps99;go_wp2_with fail
 go_quiet (fail);go_wp2_with (go_at_call 151;refine(Kh HA.out.aI H4).mono ?_;rintro e w3 ⟨rfl,j⟩;have R4:=j.bj;have p2:=R4.g i 2 _ ii;have wW:=bO8;have k:=j.g i {X with ae:=c} (q:=2) (v:=I c);have vV:=ag k);go_end0;exact⟨ii,vV⟩
section
variable{af:Nat}{F:Fx}{w w0:World}{m m0:Mem}{S:Wd}
theorem At.Rw(A:At af F m0 w0 m w S)(e:S.ah[n]?=T)(y:fE):At af F m0 w0 m (w.setCells F.ah (n*7) [y.cK,y.g,y.ch,y.case,y.cF,y.v,y.done]) (S.cJ n y):=by
 have d:∀{c:Wd} {a b:fE},c.ah[n]?=a->(c.cJ n b).ah[n]?=b:=λh=>NG h
 have i:∀{c:Wd} {a b:fE},(c.cJ n a).cJ n b=c.cJ n b:=by simp[Wd.cJ,my]
 have f:=((((((A.s e {T with cK:=y.cK} (q:=0) (v:=B y.cK) oX ii).s (d e) {T with cK:=y.cK,g:=y.g} (q:=1) (v:=I y.g) oX ii).s (d (d e)) {T with cK:=y.cK,g:=y.g,ch:=y.ch} (q:=2) (v:=I y.ch) oX ii).s (d (d (d e))) {T with cK:=y.cK,g:=y.g,ch:=y.ch,case:=y.case} (q:=3) (v:=I y.case) oX ii).s (d (d (d (d e)))) {T with cK:=y.cK,g:=y.g,ch:=y.ch,case:=y.case,cF:=y.cF} (q:=4) (v:=B y.cF) oX ii).s (d (d (d (d (d e))))) {T with cK:=y.cK,g:=y.g,ch:=y.ch,case:=y.case,cF:=y.cF,v:=y.v} (q:=5) (v:=I y.v) oX ii).s (d (d (d (d (d (d e)))))) y (q:=6) (v:=B y.done) oX ii;simp[i]at f;exact f
theorem At.res(A:At af F m0 w0 m w S){j:Nat}{x:bI}(a:S.gs[j]?=x)(y:nP):At af F m0 w0 m (((((w.setCell (F.gs,j*25+15) y.aJ).setCell (F.gs,j*25+16) y.case).setCell (F.gs,j*25+17) y.v).setCell (F.gs,j*25+18) y.ok).setCell (F.gs,j*25+19) y.n) (S.ay j {x with res:=y}):=by
 have b:=(A.g a {x with res:={x.res with aJ:=y.aJ}} (q:=15) (v:=I y.aJ)).g (az a) {x with res:={x.res with aJ:=y.aJ,case:=y.case}} (q:=16) (v:=I y.case);rw[aA]at b;have c:=b.g (az a) {x with res:={x.res with aJ:=y.aJ,case:=y.case,v:=y.v}} (q:=17) (v:=I y.v);rw[aA]at c;have d:=c.g (az a) {x with res:={x.res with aJ:=y.aJ,case:=y.case,v:=y.v,ok:=y.ok}} (q:=18) (v:=B y.ok);rw[aA]at d;have e:=d.g (az a) {x with res:=y} (q:=19) (v:=I y.n);rwa[aA]at e
theorem BW(R:bz af F w m S)(a:S.ah[b]?=T):∀(q:Nat),q<7->(w.cell? (F.ah,b*7+q)).isSome:=λq c=>by
 let⟨v,d⟩:∃v,(mg b T)[q]?=some v:=⟨_,fv (by exact c)⟩;rw[R.s a q v d];rfl
section
variable(A:At af F m0 w0 m w S)
include A
theorem SM(a:Mach.lock S b Y=t)(c:(dH S b).cases.length<=1000)(d:∃x,S.gs[b]?=some x):gt 155 #[bR F,I b,Y] w (ee λw'=>At af F m0 w0 m w' t):=
 (bp2 A.bj b Y t a c d).mono λe w' ⟨f,g⟩=>⟨f,A.cont g⟩
theorem C9(l who:Int):gt 156 #[F.dY,l,who] w λe w'=>(∃b,e=Value.bool b)/\At af F m0 w0 m w' (free S l who):=
 (Lz A.bj l who).mono λe w' ⟨a,c⟩=>⟨⟨_,a⟩,A.cont c⟩
theorem Kl(g:Int):gt 157 #[F.dB,g] w λe w'=>(∃b,e=Value.bool b)/\At af F m0 w0 m w' {S with ax:=(tD S.ax g).1}:=
 (LC A.bj g).mono λe w' ⟨a,c⟩=>⟨⟨_,a⟩,A.cont c⟩
theorem OO(g:Int):gt 160 #[F.dB,g] w λe w'=>(∃b,e=Value.bool b)/\At af F m0 w0 m w' {S with ax:=(ready S.ax g).1}:=
 (Ik A.bj g).mono λe w' ⟨a,c⟩=>⟨⟨_,a⟩,A.cont c⟩
theorem OP(a:dk S b=t):gt 159 #[bR F,I b] w (ee λw'=>At af F m0 w0 m w' t):=
 (uN A.bj b t a).mono λe w' ⟨c,d⟩=>⟨c,A.cont d⟩
theorem OQ{s:Nat}(c:Mach.serve S b s Z=t):gt 152 #[bR F,I b,I s,.bool Z] w (ee λw'=>∃a,At af F m0 w0 a w' t):=
 (yT A.bj b s Z t c).mono λe w' ⟨d,a,f⟩=>⟨d,a,A.cont f⟩
theorem Wc{lost:Int}(a:rD S b lost Y=t):gt 99 #[bR F,I b,lost,Y] w (ee λw'=>At af F m0 w0 m w' t):=
 (Ff A.bj b lost Y t a).mono λe w' ⟨c,d⟩=>⟨c,A.cont d⟩
theorem Fk(i:S.Eg.Ok){g:Nat}(x:Nat)(j:g<S.Eg.aC):gt 158 #[F.Eg,I g,I x] w λe w'=>(∃b,e=Value.bool b)/\∃a,At af F m0 w0 a w' {S with Eg:=(S.Eg.nh g x).1}:=by
 let⟨c,k⟩:∃c,S.Eg.aC[g]?=some c:=⟨_,fv j⟩
 cases d:S.Eg.cK x with
 |true=>exact(IA A.bj i g x c k d).mono λe w' ⟨f,a,h⟩=>⟨⟨_,f⟩,a,A.cont h⟩
 |false=>
  have l:(S.Eg.nh g x).1=S.Eg:=by unfold fS.nh;simp only[k,d];simp
  rw[l];exact(OL A.bj i g x j d).mono λe w' ⟨f,h⟩=>⟨⟨_,f⟩,m,A.cont h⟩
end
theorem qk{S:Wd}{x:Int}(h:lh S Y x=t):∃q b,S.ef.push Y x=some (q,b)/\t={S with ef:=q}:=by
 unfold lh at h
 cases a:S.ef.push Y x with
 |none=>rw[a]at h;cases h
 |some q=>rw[a]at h;cases h;exact⟨q.1,q.2,ii,ii⟩
theorem yZ(A:At af F m0 w0 m w S){x:Int}(h:lh S Y x=t):gt 103 #[F.ef,Y,x] w λe w'=>(∃b,e=Value.bool b)/\At af F m0 w0 m w' t:=by
 obtain⟨q,b,a,rfl⟩:=qk h;exact(Lp A.bj Y x q b a).mono λe w' ⟨c,d⟩=>⟨⟨b,c⟩,A.cont d⟩
theorem ql{B size:Nat}{v:Value}(h:w.ownsRow B n size v z J)(i:b<=B):w.ownsRow b n size v z J:=by
 let⟨d,a⟩:=h;refine⟨d,?_⟩;obtain a|⟨g,cap,c,e,j,f⟩:=a
 .exact .inl a
 exact .inr ⟨g,cap,c,e,oX,f⟩
theorem jo{c d e f g i j:Value}{t:TypeId}{k:Nat×Nat}(h:w.heap[b]?=some (.cells #[a,c,d,e,f,g,i,j] t k)):w.cell? b=a/\w.cell? (b,1)=c/\w.cell? (b,2)=d/\w.cell? (b,3)=e/\w.cell? (b,4)=f/\w.cell? (b,5)=g/\w.cell? (b,6)=i/\w.cell? (b,7)=j:=by
 refine⟨?_,?_,?_,?_,?_,?_,?_,?_⟩<;>(rw[al7 w b _ _ _ _ h];rfl)
theorem jD{c d e f g:Value}{t:TypeId}{i:Nat×Nat}(h:w.heap[b]?=some (.cells #[a,c,d,e,f,g] t i)):w.cell? b=a/\w.cell? (b,1)=c/\w.cell? (b,2)=d/\w.cell? (b,3)=e/\w.cell? (b,4)=f/\w.cell? (b,5)=g:=by
 refine⟨?_,?_,?_,?_,?_,?_⟩<;>(rw[al7 w b _ _ _ _ h];rfl)
theorem ao9{c d e f g i:Value}{t:TypeId}{j:Nat×Nat}(h:w.heap[b]?=some (.cells #[a,c,d,e,f,g,i] t j)):w.cell? b=a/\w.cell? (b,1)=c/\w.cell? (b,2)=d/\w.cell? (b,3)=e/\w.cell? (b,4)=f/\w.cell? (b,5)=g/\w.cell? (b,6)=i:=by
 refine⟨?_,?_,?_,?_,?_,?_,?_⟩<;>(rw[al7 w b _ _ _ _ h];rfl)
theorem At.stays{S2:Wd}(R:bz af F w m S)(B:At af F m w D v S2){o:Obj}(h:w.heap[b]?=o)(a:∀r,m.aV r≠b):v.heap[b]?=o/\∀r,D.aV r≠b:=by
 refine⟨(B.mv.keep b ((dh h).1) a).trans h,λr e=>?_⟩;obtain⟨d,c⟩|c:=B.mv.old r b e
 all_goals grind
theorem bz.iT(R:bz af F w m S)(h:w<=b):∀r,m.aV r≠b:=λr e=>by have:=R.lt e;omega
structure Good(S:Wd):Prop where
 Eg:S.Eg.Ok
 aC:S.Eg.aC=S.gs.length
 au:∀(i:Nat) (r:Ring),S.au[i]?=r->r.Ok
 OK:∀(g:Nat) (x:bI),S.gs[g]?=x->x.OK.length<=1000000
 nA:S.aO=S.au.length
end
structure AB(af:Nat)(F:Fx)(m0:Mem)(w0:World)(m:Mem)(w:World)(S:Wd)(L:List (Nat×Obj)):Prop where
 at_:At af F m0 w0 m w S
 loc:∀p∈L,w.heap[p.1]?=p.2/\∀r,m.aV r≠p.1
section
variable{af:Nat}{F:Fx}{w w0 w':World}{m m0 m':Mem}{S S':Wd}{L:List (Nat×Obj)}
theorem AB.av(X:AB af F m0 w0 m w S L)(B:At af F m w m' w' S'):AB af F m0 w0 m' w' S' L:=
 ⟨X.at_.cont B,λp a=>At.stays X.at_.bj B (X.loc p a).1 (X.loc p a).2⟩
theorem AB.bj(X:AB af F m0 w0 m w S L):bz af F w m S:=X.at_.bj
theorem AB.aI(X:AB af F m0 w0 m w S L)(a:w'.heap=w.heap:=by rfl)(b:w'.os=w.os:=by rfl)(c:w'.tape=w.tape:=by rfl)(d:w'.output=w.output:=by rfl):AB af F m0 w0 m w' S L:=
 ⟨X.at_.aI a b c d,λp e=>by rw[a];exact X.loc p e⟩
theorem AB.g(X:AB af F m0 w0 m w S L){j:Nat}{x:bI}(a:S.gs[j]?=x)(y:bI){q:Nat}{v:Value}(b:q<25:=by omega)(c:gk m j y=(gk m j x).set q v:=by rfl)(d:y.ops=x.ops:=by rfl)(e:y.aH=x.aH:=by rfl)(f:y.aq=x.aq:=by rfl)(h:y.bA=x.bA:=by rfl)(i:y.OK=x.OK:=by rfl):AB af F m0 w0 m (w.setCell (F.gs,j*25+q) v) (S.ay j y) L:=
 X.av ((At.refl X.bj).g a y b c d e f h i)
theorem AB.s(X:AB af F m0 w0 m w S L){j:Nat}{x:fE}(a:S.ah[j]?=x)(y:fE){q:Nat}{v:Value}(b:q<7)(c:mg j y=(mg j x).set q v):AB af F m0 w0 m (w.setCell (F.ah,j*7+q) v) (S.cJ j y) L:=
 X.av ((At.refl X.bj).s a y b c)
theorem AB.res(X:AB af F m0 w0 m w S L){j:Nat}{x:bI}(a:S.gs[j]?=x)(y:nP):AB af F m0 w0 m (((((w.setCell (F.gs,j*25+15) y.aJ).setCell (F.gs,j*25+16) y.case).setCell (F.gs,j*25+17) y.v).setCell (F.gs,j*25+18) y.ok).setCell (F.gs,j*25+19) y.n) (S.ay j {x with res:=y}) L:=
 X.av ((At.refl X.bj).res a y)
theorem AB.alloc(X:AB af F m0 w0 m w S L)(o:Obj):AB af F m0 w0 m (w.alloc o) S ((w,o)::L):=by
 refine⟨X.at_.alloc o,λp a=>?_⟩;obtain h|h:=iL.1 a
 .subst h;exact⟨ag7 w o,X.bj.iT cG⟩
 exact At.stays X.bj ((At.refl X.bj).alloc o) (X.loc p h).1 (X.loc p h).2
theorem AB.less(X:AB af F m0 w0 m w S L){L':List (Nat×Obj)}(h:∀p∈L',p∈L):AB af F m0 w0 m w S L':=⟨X.at_,λp a=>X.loc p (h p a)⟩
theorem AB.iU(R:bz af F w m S):AB af F m w m w S []:=⟨At.refl R,λp a=>by cases a⟩
section
variable{o:Obj}(X:AB af F m0 w0 m w S ((b,o)::L))
include X
theorem AB.head:w.heap[b]?=o:=(X.loc _ (rn ..)).1
theorem AB.ne{r:bH}(h:m.aV r=n):n≠b:=λe=>(X.loc _ (rn ..)).2 r (by rw[<-e];exact h)
end
theorem dm.shape{v:Value}{d:List Case}(h:dm b w v d):∃a c,v=.slice a d c:=by
 obtain⟨e,f⟩|⟨g,cap,e,f,_⟩:=h;all_goals grind
theorem SN(R:bz af F w m S)(g:Nat)(x:bI)(hx:S.gs[g]?=x)(o:cu)(a:am)(b c:Nat):gt 146 #[.agg #[F.aQ,I g,o.ai,o.ch,o.n,o.v,(a,b,c),o.dG]] w (eL (.pointer (F.gs,g*25)) λw'=>At af F m w m w' S):=by
 have:=bM1;have:=R.eu;have:=bO9;go_enter func146,ntmps146;go_wp2;go_quiet (fail);go_wp2;go_ret;exact⟨ii,(ag ((At.refl R).alloc (iY F g o a b c))).out.aI⟩
theorem pn(X:AB af F m0 w0 m w S L)(g:Nat)(f:S.gs[g]?=e)(o:cu)(b:am)(c d:Nat):gt 146 #[.agg #[F.aQ,I g,o.ai,o.ch,o.n,o.v,(b,c,d),o.dG]] w (eL (.pointer (F.gs,g*25)) λw'=>AB af F m0 w0 m w' S L):=
 (SN X.bj g e f o b c d).mono λa w' ⟨h,i⟩=>⟨h,X.av i⟩
section
variable(R:bz af F w m S)(g:Nat)(x:bI)(hx:S.gs[g]?=x)(o:cu)(ca:am)(cn cc:Nat)
include R g x hx o ca cn cc
theorem LW(p:Int):gt 98 #[.agg #[F.aQ,I g,o.ai,o.ch,o.n,o.v,(ca,cn,cc),o.dG],p] w (ee λw'=>At af F m w m w' (S.ay g {x with ae:=p})):=by
 have a:=bL7;go_enter func98,ntmps98;go_wp2_with (go_at_call 146;refine(pn (ag ((AB.iU R).alloc (iY F g o ca cn cc))) g a o ca cn cc).mono ?_;rintro e d ⟨rfl,b⟩;have R2:=b.bj;have:=R2.g a 2 _ ii;have:=bP0;have c:=ag (b.at_.g a {x with ae:=p} (q:=2) (v:=I p)));go_end0;exact⟨ii,c⟩
theorem Fl(c:Int):gt 148 #[.agg #[F.aQ,I g,o.ai,o.ch,o.n,o.v,(ca,cn,cc),o.dG],c] w (ee λw'=>At af F m w m w' (S.ay g {x with res:=bZ c})):=by
 have b:=bL7;go_enter func148,ntmps148;go_wp2_with (go_at_call 146;refine(pn (ag ((AB.iU R).alloc (iY F g o ca cn cc))) g b o ca cn cc).mono ?_;rintro e i ⟨rfl,d⟩;have a:=d.bj;have:=a.g b 15 _ ii;have:=a.frozen a.aB.gs (g*25+15);have:=a.g b 16 _ ii;have:=a.frozen a.aB.gs (g*25+16);have:=a.g b 17 _ ii;have:=a.frozen a.aB.gs (g*25+17);have:=a.g b 18 _ ii;have:=a.frozen a.aB.gs (g*25+18);have:=a.g b 19 _ ii;have:=a.frozen a.aB.gs (g*25+19);have f:=ag (d.at_.res b (bZ c)));go_end0;exact⟨ii,f⟩
end
section
variable(X:AB af F m0 w0 m w S L)(g:Nat)(hx:S.gs[g]?=e)(o:cu)(ca:am)(cn cc:Nat)
include X g hx o ca cn cc
theorem ig(p:Int):gt 98 #[.agg #[F.aQ,I g,o.ai,o.ch,o.n,o.v,(ca,cn,cc),o.dG],p] w (ee λw'=>AB af F m0 w0 m w' (S.ay g {e with ae:=p}) L):=
 (LW X.bj g e hx o ca cn cc p).mono λa w' ⟨b,c⟩=>⟨b,X.av c⟩
theorem mG(b:Int):gt 148 #[.agg #[F.aQ,I g,o.ai,o.ch,o.n,o.v,(ca,cn,cc),o.dG],b] w (ee λw'=>AB af F m0 w0 m w' (S.ay g {e with res:=bZ b}) L):=
 (Fl X.bj g e hx o ca cn cc b).mono λa w' ⟨c,d⟩=>⟨c,X.av d⟩
end
theorem OU(h:cZ S Y):∃c:Nat,Y=(c:Int)+1/\c<S.au:=by
 unfold cZ at h;simp[lm]at h;exact⟨(Y-1).toNat,oX,oX⟩
section
variable(R:bz af F w m S)
include R
theorem bz.iJ{r:Ring}(h:S.au[b]?=r):∃a c:Nat,m.aV .au=a/\m.aV (.eU b)=c/\w.cell? (F.aQ,5)=some (.slice a S.au (m.cap .au))/\w.cell? (a,b)=some (.pointer c):=by
 have g:b<S.au.length:=um h;let⟨a,d⟩:=R.has (r:=.au) (by simp only[aj];intro e;rw[at3,List.range_eq_nil]at e;omega);let⟨c,f⟩:=R.has (r:=.eU b) cr0;refine⟨a,c,d,f,by rw[<-Mem.de d];exact R.qx,R.cell d ?_⟩;simp[aj,bI9 g];rw[Mem.lz f]
theorem bz.ka{b:Bool}(h:S.aO[n]?=b):∃a:Nat,m.aV .aO=a/\w.cell? (F.aQ,6)=some (.slice a S.aO (m.cap .aO))/\w.cell? (a,n)=B b:=by
 have d:n<S.aO.length:=um h;let⟨a,c⟩:=R.has (r:=.aO) (by simp[aj];intro e;have:=congrArg List.length e;rw[this]at d;simp at d);exact⟨a,c,by rw[<-Mem.de c];exact R.Cv,R.cell c cr0⟩
theorem Dc(a:Int)(n:Nat):gt 138 #[F.aQ,a] (w.drewN n) λe w'=>e=Value.bool (cZ S a)/\w'=w.drewN n:=
 (aJ5 (w:=w.drewN n) (R.heap λ_ _ _=>rfl) a).mono λe w' ⟨b,c⟩=>⟨b,c.symm⟩
end
theorem qI(a:Good S)(h:cZ S Y):∃c b,Y=((c:Nat):Int)+1/\S.aO[c]?=some b/\dK S Y=b:=by
 obtain⟨c,rfl,d⟩:=OU h;let⟨b,e⟩:∃b,S.aO[c]?=some b:=⟨_,fv (by rw[a.nA];exact d)⟩;grind [dK,eR]
theorem Dd(R:bz af F w m S)(l:Good S)(g:Nat)(o:cu)(r:eX o.ch)(f:am)(i j:Nat):gt 147 #[.agg #[F.aQ,I g,o.ai,o.ch,o.n,o.v,(f,i,j),o.dG]] w (eL (.bool (dK S o.ch)) λw'=>At af F m w m w' S):=by
 have HX:=ag ((AB.iU R).alloc (.cells #[F.aQ,I g,I o.ai,I o.ch,I o.n,I o.v,(f,i,j),B o.dG] 173))
 cases d:cZ S o.ch with
 |false=>
  have e:dK S o.ch=false:=by unfold dK;rw[d];rfl
  rw[e];have a:=bP1;rw[d]at a;go_enter func147,ntmps147;go_wp2_with fail
  go_quiet ((go_at_call 138;exact ag5 (a _)));go_wp2;go_ret;exact⟨ii,HX.out.at_.aI⟩
 |true=>
  let⟨c,b,p,k,e⟩:=qI l d;rw[e];let⟨s,q,t,u⟩:=R.ka k;have:c<S.aO.length:=um k;have:=bO9;have:=R.lt q;have a:=bP1;rw[d]at a;have:IntKind.i64.wrap ((c:Int)+1-1)=(c:Int):=cx7
  rw[p]at a HX ⊢;have:(c:Int)+1<=1000000000:=oX
  go_enter func147,ntmps147;go_wp2_with fail
  go_quiet ((go_at_call 138;exact ag5 (a _)));go_wp2;go_ret;exact⟨ii,HX.out.at_.aI⟩
theorem qJ(R:bz af F w m S)(j:Good S)(a:Int)(l:eX a):gt 162 #[bR F,a] w (eL (.bool (dK S a)) λw'=>w=w'):=by
 have d:=ag (aJ5 R a)
 cases f:cZ S a with
 |false=>
  have g:dK S a=false:=by unfold dK;rw[f];rfl
  rw[g];rw[f]at d;unfold bR;go_enter func162,ntmps162;go_wp2_with (go_at_call 138;refine d.out.mono ?_;rintro e w' ⟨rfl,rfl⟩);go_ret;exact⟨ii,ii⟩
 |true=>
  let⟨c,b,k,i,g⟩:=qI j f;rw[g];let⟨n,o,p,q⟩:=R.ka i;have:c<S.aO.length:=um i;rw[f]at d;have:IntKind.i64.wrap ((c:Int)+1-1)=(c:Int):=cx7
  subst k;unfold bR;go_enter func162,ntmps162;go_wp2_with (go_at_call 138;refine d.out.mono ?_;rintro e w' ⟨rfl,rfl⟩);go_ret;exact⟨ii,ii⟩
section
variable(ch:Int)(bO:eX ch)
include ch bO
theorem xB(w:World):Calls prog 167 #[ch] w (eL (I (2*ch-2)) λw'=>w=w'):=by
 exact bZ9
theorem tp(w:World):Calls prog 164 #[ch] w (eL (I (2*ch-1)) λw'=>w=w'):=by
 exact bZ9
theorem kh{w:World}:Calls prog 176 #[ch] w (eL (I (2*ch-2)) λw'=>w=w'):=by
 exact bZ9
theorem aH9{w:World}:Calls prog 177 #[ch] w (eL (I (2*ch-1)) λw'=>w=w'):=by
 exact bZ9
end
theorem kx{r:Ring}(h:kq S Y=(b,r)):Y=(b:Int)+1/\S.au[b]?=r:=by
 grind [kq,cI,du]
theorem SP(X:AB af F m0 w0 m w S L){i:Nat}{r:Ring}(h:S.au[i]?=r)(a:m.aV (.eU i)=b):gt 204 #[b] w (eL (.bool r.full) λw'=>AB af F m0 w0 m w' S L):=
 (vO X.bj h a).mono λe w' ⟨c,n,d⟩=>⟨c,by subst d;exact X.aI⟩
theorem ZD(R:bz af F w m S)(k:Int)(n:Nat):gt 205 #[F.ef,k] (w.drewN n) λe w'=>e=(S.ef.len k)/\w'=w.drewN n:=
 (By (w:=w.drewN n) (R.heap λ_ _ _=>rfl) k).mono λe w' ⟨a,b⟩=>⟨a,b.symm⟩
theorem lW(R:bz af F w m S)(f:Int)(y:eX f)(b:Bool)(d:iX S f=b):gt 161 #[bR F,f] w (eL (.bool b) λw'=>∃n,w'=w.drewN n):=by
 have g:=ag (aJ5 R f);unfold iX at d
 cases i:cZ S f with
 |false=>
  rw[aF i]at d
  cases d;rw[i]at g;unfold bR;go_enter func161,ntmps161;go_wp2_with (go_at_call 138;refine g.out.mono ?_;rintro e w' ⟨rfl,rfl⟩);go_ret;exact⟨ii,0,ii⟩
 |true=>
  rw[aE (by simp[i])]at d;rw[i]at g;simp only[bW,cI]at d;let⟨⟨c,r⟩,z,d⟩:=d;let⟨A,k⟩:=kx z;subst A;let⟨E,G,B,p,H,I⟩:=R.iJ k;let⟨J,s,a,K,C,D,M,N,_⟩:=R.eU k;rw[p]at s
  cases s;have:c<S.au.length:=um k;have:IntKind.i64.wrap ((c:Int)+1-1)=(c:Int):=cx7
  have:=R.dR;have l:=ag (λn=>ZD R (2*((c:Int)+1)-1) n);obtain⟨n,t⟩:=bO6;unfold Ring.room at d;rw[<-t]at D d;by_cases u:(0:Int)<(n:Int)
  .rw[aF u]at d
   cases d;have:0<n:=oX;unfold bR;go_enter func161,ntmps161;go_wp2_with (first|(go_at_call 138;refine g.out.mono ?_;rintro e w' ⟨rfl,rfl⟩)|go_in);go_ret;exact⟨ii,0,ii⟩
  rw[aE u]at d;obtain rfl:n=0:=oX
  have v:b=decide (0<S.ef.len (2*((c:Int)+1)-1)):=cp2
  let⟨q,x⟩:=dC (S.ef.len (2*((c:Int)+1)-1));rw[<-x]at l v;subst v;let⟨O,o⟩:=dC ((2*((c:Int)+1)-1));rw[<-o]at l;have j:=ag (λW=>tp ((c:Int)+1) y W);rw[<-o]at j;clear R k B p C t i d x o;unfold bR;go_enter func161,ntmps161;go_wp2_with (first|(go_at_call 138;refine g.out.mono ?_;rintro e w' ⟨rfl,rfl⟩)|go_in);go_quiet ((first|(go_at_call 164;exact ag5 ((j _).mono λ_ _ h=>⟨h.1,h.2.symm⟩))|(go_at_call 205;exact ag5 (l _))));go_wp2;go_ret;exact⟨ii,_,ii⟩