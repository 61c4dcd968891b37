import Derived.Test.YtadifmnmfnihdaaGreatA00
set_option linter.all false
set_option maxRecDepth 100000
set_option maxHeartbeats 40000000
namespace Go.Proofs.YtadifmnmfnihdaaGreat
open Go.RowKit Mach Go.Proofs.Tryz
variable{u f w' w2:World}{D:Mem}{b n z X cp:Nat}{G:Fx}{S':Wd}{us c2:dl}{A:am}{h:ce}{J:bi}{Y:Int}{L:cu}
section
variable{af:Nat}{F:Fx}{w:World}{m:Mem}{S:Wd}
section
variable(R:bz af F w m S)
include R
theorem EG:∃a c,w.cell? (F.aQ,5)=some (.slice a S.au c):=by
 obtain⟨a,c,h⟩:=bL9;grind [bz.qx]
theorem aJ5(b:Int):gt 138 #[bR F,b] w (eL (.bool (cZ S b)) λe=>w=e):=by
 let⟨a,c,f⟩:=EG R;unfold cZ;let⟨n,d⟩:=dC (S.au.length);rw[<-d]at f ⊢;clear R d;by_cases h1:1<=b
 .unfold bR;go_enter func138,ntmps138;go_wp2;go_ret;exact⟨by simp[h1],ii⟩
 have:decide (1<=b)=false:=cm9
 unfold bR;go_enter func138,ntmps138;go_wp2;go_ret;exact⟨sX,ii⟩
theorem EH{g:Nat}{x:bI}(hx:S.gs[g]?=x):∃a c,w.cell? (F.gs,g*25+23)=some (.slice a x.OK c):=by
 obtain⟨a,c,h⟩:=bM0;exact⟨a,c,h▸R.g hx 23 _ ii⟩
theorem uN(g:Nat)(f:Wd)(b:dk S g=f):gt 159 #[bR F,I g] w (ee λj=>At af F m w m j f):=by
 unfold dk fL at b
 cases hx:S.gs[g]? with
 |none=>rw[hx]at b;cases b
 |some x=>
  rw[hx]at b;simp[km]at b
  cases b;have:=bM1;have:=R.eu;let⟨a,c,e⟩:=EH R hx;obtain⟨c2,f2⟩:=bM2;have i:=bM3;by_cases d:x.OK=[]
  .rw[d]at e;have A:=ag (i.out.g hx {x with ae:=18} (q:=2) (v:=I 18));rw[aF d];exact ch6
  have:0<x.OK.length:=pd d;have A:=ag (i.out.g hx {x with ae:=17} (q:=2) (v:=I 17));rw[aE d];exact ch6
theorem Le(g s:Nat)(i:Wd)(a:pair S g s=i):gt 151 #[bR F,I g,I s] w (ee λo=>At af F m w m o i):=by
 unfold pair at a;simp only[bW,cI]at a;let⟨x,hx,j,d,z,e,y,b,a⟩:=a;have e:=du e;by_cases f:z=g
 .rw[aF f]at a;cases a
 rw[aE f]at a
 cases a;have:=bM1;have:z<S.gs.length:=um b;have:s<S.ah.length:=um d;have:=R.eu;have:=R.ax7;have p:=R.s d 1 _ ii;have:=R.s d 3 _ ii;have:=R.g hx 10 _ ii;have:=R.g hx 12 _ ii;have:=R.g hx 13 _ ii;have:=R.g b 12 _ ii;have:=R.g b 13 _ ii;have:=R.g b 14 _ ii;have c:=R.frozen R.aB.gs;have:=c (g*25+12);have:=c (g*25+13);have:=c (z*25+12);have:=c (z*25+13);have:=c (z*25+14);obtain⟨A,B,C,E,G,H,r,J,K⟩:=bM4;have k:=((At.refl R).g hx {x with lQ:=x.t} (q:=12) (v:=I x.t)).g (az hx) {x with lQ:=x.t,bF:=z} (q:=13) (v:=I z);have rN:(S.ay g {x with lQ:=x.t,bF:=z}).gs[z]?=y:=by rw[Cw (dE f)];exact b
 rw[aA]at k;have l:=(k.g rN {y with lQ:=x.t} (q:=12) (v:=I x.t)).g (az rN) {y with lQ:=x.t,bF:=g} (q:=13) (v:=I g);rw[aA]at l;have n:=l.g (az rN) {y with lQ:=x.t,bF:=g,fire:=j.case} (q:=14) (v:=I j.case);rw[aA]at n;rw[e]at p ⊢;have:¬g*25+10=z*25+12:=oX
 unfold bR;go_enter func151,ntmps151;go_wp2_with fail
 go_quiet (fail);go_wp2;go_end0;exact⟨ii,(ag n).out.aI⟩
theorem yE(g:Nat)(x:bI)(hx:S.gs[g]?=x):gt 84 #[bR F,I g] w (ee (To af F m w (S.ay g (bu x)))):=by
 have:=um hx;have c3:=R.eu
 let⟨a,c,h⟩:=R.shape (r:=.ops g) (n:=x.ops.length) (by simp[aj,hx];intro h;cases q:x.ops with
  |nil=>rfl
  |cons a l=>rw[q]at h;simp[bT,Cu]at h)
 have i:=R.g0 hx;have s:=bM5;have t:=bM6;have v:=R.g hx 3 _ ii;have y:=R.g hx 4 _ ii;have k:Hid (∀j,j<25->(w.cell? ⟨F.gs,g*25+j,none⟩).isSome=true):=λj b=>by grind [wR,bz.g]
 have o:Hid (∀j,w.frozen? ⟨F.gs,j,none⟩=false):=R.frozen R.aB.gs;let⟨p,d⟩:=dC (w.drew);have e:=(At.refl R).drew;rw[<-d]at e;let⟨E,A⟩:=e.clear hx;rw[h]at i A;have z:=ag A;have f:=ag d;clear R hx h A e d;unfold bR;go_enter func84,ntmps84;go_wp2;go_still_tail 24,kX;change wpList _ _ _ _ _ w.drew;rw[<-f.out];have B:Hid (∀j,j<25->(p.cell? ⟨F.gs,g*25+j,none⟩).isSome=true):=by rw[f.out];exact k
 have C:Hid (∀j,p.frozen? ⟨F.gs,j,none⟩=false):=by rw[f.out];exact o
 clear k o i s t v y c3;refine JS ii 100 (.tmp 34) (.tmp 33) ii F.gs (g*25) _ ii ii kX (λj b=>B j b) (λj b=>C _) cj0 ?_;go_wp2;go_end0;exact⟨ii,_,z⟩
end
end
section
variable{S:Wd}
theorem LO(R:bz n G u D S)(x:Int)(q':er)(b:Bool)(c:S.ef.drop x=(q',b)):gt 150 #[G.ef,x] u (eL (.bool b) λw'=>At n G D u D w' {S with ef:=q'}):=by
 have Ry:=ag (NN R x);have HR:=bM3;unfold er.drop at c
 cases r:idx S.ef.aS x with
 |none=>
  simp only[r]at c
  cases c;have B:Sa S.ef x=(0,false):=by unfold Sa;rw[r]
  rw[B]at Ry;clear R r B;exact ce7
 |some t=>
  obtain⟨j,rfl,hj,Q⟩:=mO r;simp only[r]at c;by_cases H:t.pX= -1
  .rw[aF H]at c
   cases c;have B:Sa S.ef j=(0,false):=(by unfold Sa;rw[r];simp[H]);rw[B]at Ry;clear R r B H Q;exact ce7
  rw[aE H]at c;have B:Sa S.ef j=(t.pX,true):=by unfold Sa;rw[r];simp[H]
  rw[B]at Ry;rw[oU]at c
  cases a:S.ef.out j t with
  |none=>rw[a]at c;cases c
  |some q2=>
   rw[a]at c;simp only[km]at c
   cases c;unfold er.out at a;simp only[bW,cI]at a;let⟨k,hk,l,T,a⟩:=a;have L:=du hk;by_cases eK:kJ l.count=false
   .grind
   rw[aE eK]at a;have Aq:k<S.ef.bM.length:=um T;have cT:=R.xN;have cL:=R.yq;let⟨e0,U,e2⟩:=R.thing Q;let⟨l0,l1,l2⟩:=R.line T;have W:=R.frozen R.aB.bM;have M:=R.frozen R.aB.aS;let⟨Lq,Lr,N4,vP,xr,vQ,xt,xu,xv⟩:=R.zQ R.aB.ef R.aB.aS R.aB.bM;have N5:=λy z h=>R.thing (j:=y) (x:=z) h
   rw[L]at Ry e0;have VH: -1000000000<=l.count/\l.count<=1000000000:=(by simpa[kJ]using eK);let⟨X,C,UC,VJ⟩:=ia Q T M N5;have f2:=W (k*3+2);have f1:=W (k*3+1);have f0:=W (k*3);have a2:=M (j*3);have a3:=M (j*3+1);have a4:=M (j*3+2);clear R r B H Q T hk L eK W M N5;by_cases p:t.ahead= -1
   .rw[aF p]at a;by_cases d:t.behind= -1
    .rw[p]at e2;rw[d]at U;simp only[eN,aF d]at a
     cases a;rw[p,d];have f:=HR.out.line (q:=0) C {l with first:= -1} oX (v:=I (-1)) ii
     have g:=f.line (q:=1) (lE C) {l with first:= -1,last:= -1} oX (v:=I (-1)) ii;have i:=g.line (q:=2) (lE (lE C)) {l with first:= -1,last:= -1,count:=l.count-1} oX (v:=I (l.count-1)) ii;have E:=ag (i.vK (j:=j) (x:=t) X {});clear p d f g i;go_enter func150,ntmps150;go_wp2_with (go_at_call 206;refine Ry.out.mono ?_;rintro e w' ⟨rfl,rfl⟩);go_ret;exact⟨ii,(E.out.alloc _).eq cw2⟩
    rw[p]at e2;simp only[eN,aE d,cI]at a;let⟨⟨q3,l3⟩,⟨y,J,s,o,N⟩,a⟩:=a;have A:=du J;by_cases K:y=j
    .grind
    rw[aE K]at N
    cases N
    cases a;rw[p,A];rw[A]at U;have Hy:((y:Int)== -1)=false:=sX;have a0:y<S.ef.aS.length:=um o;let⟨t0,t1,t2⟩:=VJ.out y s o;have fy:=UC.out (y*3+2);have f:=HR.out.line (q:=0) C {l with first:=y} oX (v:=I y) ii
    have g:=f.thing (q:=2) (j:=y) (x:=s) o {s with ahead:= -1} oX (v:=I (-1)) ii;have i:=g.line (q:=2) (j:=k) (x:={l with first:=y}) (lE C) {l with first:=y,count:=l.count-1} oX (v:=I (l.count-1)) ii;have E:=ag (i.vK (j:=j) (x:=t) (rL X K) {});clear p d f g i o J A;go_enter func150,ntmps150;go_wp2_with (go_at_call 206;refine Ry.out.mono ?_;rintro e w' ⟨rfl,rfl⟩);go_region;go_wp2;go_ret;exact⟨ii,((E.out.alloc _).eq cw2).drew⟩
   simp only[aE p,cI]at a;let⟨⟨q3,l3⟩,⟨y,J,s,o,N⟩,a⟩:=a;have A:=du J;by_cases K:y=j
   .grind
   rw[aE K]at N
   cases N;rw[A]at e2;have a0:y<S.ef.aS.length:=um o;let⟨t0,t1,t2⟩:=VJ.out y s o;have fy:=UC.out (y*3+1);have Hy:((y:Int)== -1)=false:=sX;by_cases d:t.behind= -1
   .rw[d]at U;simp only[aF d,cI]at a;let⟨⟨q4,l4⟩,O,a⟩:=a
    cases O
    cases a;rw[d,A];have f:=HR.out.thing (q:=1) (j:=y) (x:=s) o {s with behind:= -1} oX (v:=I (-1)) ii
    have g:=f.line (q:=1) (j:=k) (x:=l) C {l with last:=y} oX (v:=I y) ii;have i:=g.line (q:=2) (j:=k) (x:={l with last:=y}) (lE C) {l with last:=y,count:=l.count-1} oX (v:=I (l.count-1)) ii;have E:=ag (i.vK (j:=j) (x:=t) (rL X K) {});clear p d f g i o J A;go_enter func150,ntmps150;go_wp2_with (go_at_call 206;refine Ry.out.mono ?_;rintro e w' ⟨rfl,rfl⟩);go_region;go_wp2;go_ret;exact⟨ii,((E.out.alloc _).eq cw2).drew⟩
   simp only[aE d,cI]at a;let⟨⟨q4,l4⟩,⟨z,hz,tz,Y,O⟩,a⟩:=a;have Z:=du hz;by_cases V3:z=j
   .grind
   rw[aE V3]at O
   cases O
   cases a;rw[Z]at U;have a5:((z:Int)== -1)=false:=sX;have Ls:y*3+1≠z*3+2:=oX;have a6:z*3+2≠y*3+1:=oX;have Ay:z<S.ef.aS.length:=(by have:=um Y;simpa[er.fJ]using this);let⟨a1,Zu⟩:∃x,S.ef.aS[z]?=some x:=⟨_,fv Ay⟩;let⟨z0,z1,z2⟩:=VJ.out z a1 Zu;have fz:=UC.out (z*3+2);have f:=HR.out.thing (q:=1) (j:=y) (x:=s) o {s with behind:=z} oX (v:=I z) ii
   rw[Z]at Y;have g:=f.thing (q:=2) (j:=z) (x:=tz) Y {tz with ahead:=y} oX (v:=I y) ii;have i:=g.line (q:=2) (j:=k) (x:=l) C {l with count:=l.count-1} oX (v:=I (l.count-1)) ii;have E:=ag (i.vK (j:=j) (x:=t) (rL (rL X K) V3) {});rw[Z,A];clear p d f g i o J A Y Zu hz Z;go_enter func150,ntmps150;go_wp2_with (go_at_call 206;refine Ry.out.mono ?_;rintro e w' ⟨rfl,rfl⟩);go_region;go_wp2;go_region;go_wp2;go_ret;exact⟨ii,((E.out.alloc _).eq cw2).drew.drew⟩
end
section
variable{af j:Nat}{F:Fx}{w:World}{m m0:Mem}{S:Wd}{r:bH}{v:Value}
theorem pK(a:h≠[]):∃x,h.getLast? =some x/\h[h.length-1]?=x/\h.dropLast=h.take (h-1):=by
 refine⟨h.getLast a,List.getLast?_eq_some_getLast a,?_,by rw[List.dropLast_eq_take]⟩;grind
theorem At.OE(A:At af F m0 u m w S){k:Nat}{c:ce}(h:S.Eg.aC[z]?=c)(a:m.aV (.cache z)=X)(d:k=c-1):At af F m0 u m (w.setCell (F.aC,z) (X,k,m.cap (.cache z))) {S with Eg:={S.Eg with aC:=S.Eg.aC.set z (c.take k)}}:=by
 refine A.cut (n:=k) a A.bj.aB.aC sX (by simp[aj,oG h,h,List.map_take]) ?_ ?_
 .have:=oC (f:=je m) (k:=1) (λ_ _=>rfl) S.Eg.aC 0 z 0 c (c.take k) (X,k,m.cap (.cache z)) h oX (by simp[je,Mem.de a,d]);simpa[aj]using this
 intro g i l
 cases g<;>first|exact aX ii l|rfl|(simp[aj])|skip
 rename_i q;simp[aj,oG h];by_cases e:q=z
 .subst e;exact aX ii i
 simp[aE e]
theorem Ir(R:bz af F w m S)(l:S.Eg.Ok)(g:Nat)(c:ce)(a:S.Eg.aC[g]?=c)(d:c≠[]):gt 154 #[F.Eg,I g] w (eL (.tuple #[(S.Eg.take g).2.1,.bool (S.Eg.take g).2.2]) λw'=>To af F m w {S with Eg:=(S.Eg.take g).1} w'):=by
 let⟨x,y,e,i⟩:=pK d;have N:g<S.Eg.aC.length:=um a;have o:c∈S.Eg.aC:=lf a;have G:=l.cl c o;have q:=l.cac c o x (lf e);let⟨j,s⟩:∃j:Nat,x=j:=⟨x.toNat,oX⟩;have H:j<S.Eg.bV.length:=oX
 have z:S.Eg.take g=({S.Eg with aC:=S.Eg.aC.set g c.dropLast,bV:=S.Eg.bV.set j false},x,true):=by unfold fS.take;simp[a,fS.filled,aE d,y];grind
 rw[z];let⟨J,f⟩:=R.has (r:=.cache g) (by simp[aj,a,d]);have c2:=R.pf;have O:=R.Bz;have A:=R.tH a;rw[Mem.de f]at A;let⟨n,t⟩:∃n,n+1=c.length:=⟨c.length-1,by have:=pd d;omega⟩;rw[<-t]at A G e i;have K:w.cell? ⟨J,n,none⟩=I x:=R.cell f (by simp only[aj,a,na];rw[show n+1-1=n by omega]at e;rw[e];rfl);let⟨B,C⟩:∃B,S.Eg.bV[j]?=some B:=⟨_,fv H⟩;have Q:=R.bV C;have T:=R.frozen R.aB.bV j;have U:=bM7;rw[s]at K;obtain⟨W,X,Y,Z,oj,lT,lU,om,lV⟩:=bM8;have D:=(At.refl R).OE (k:=n) a f oX;have E:=D.bV j false;rw[show n+1-1=n by omega]at i;rw[i];have L:=ag E;have El:IntKind.i64.wrap (((n+1:Nat):Int)-1)=(n:Int):=cx7
 have yU:n+1<=m.cap (.cache g):=by have:=R.NH (r:=.cache g) (p:=(3,1)) ii dX f;simp[aj,a,<-t]at this;omega
 have M:=ag s;clear R a d y e i o l q s z f t D E C;rw[M.out];go_enter func154,ntmps154;go_wp2;go_region;go_wp2;go_ret2;exact⟨ii,_,L.out.aI⟩
theorem LQ(k:Nat)(M C:ce)(x:Int):dN (k+1) (M++[x]) C=dN k M (C++[x]):=by simp[dN]
theorem OF(k:Nat)(C:ce):dN k [] C=([],C):=by cases k<;>simp[dN]
theorem LR(M C:ce):dN 0 M C=(M,C):=rfl
structure C6(af:Nat)(F:Fx)(m:Mem)(w:World)(S:Wd)(g BU:Nat)(a:am)(n cp:Nat)(wr:World):Prop where
 ex:∃M C:ce,n=C/\n<=BU/\dN (BU-n) M C=dN BU S.Eg.aK []/\M.length<=64/\(∀x∈M,0<=x/\x<S.Eg.bV)/\(∀x∈C,0<=x/\x<S.Eg.bV)/\
  wr.ownsRow af 3 1 (a,n,cp) n (C.map I)/\At af F m w m wr {S with Eg:={S.Eg with aK:=M}}
 C7:∀(gb:Nat),a=gb->(m.aV (.cache g)=gb/\m.cap (.cache g)=cp)\/(∀r',m.aV r'≠gb)/\w<=gb
theorem AN{w:World}{size:Nat}(h:w.ownsRow af n size (X,z,cp) z J){a:Addr}(f:a.block≠X)(c:Value):(w.setCell a c).ownsRow af n size (X,z,cp) z J:=by
 let⟨g,d⟩:=h;refine⟨g,?_⟩;obtain d|⟨o,cap,e,i,k,l,r⟩:=d
 .exact .inl d
 cases i;exact .inr ⟨X,cp,e,ii,k,by rw[fQ (dE f)];exact l,r⟩
theorem vZ{w:World}{a:Value}{t:TypeId}:(w.alloc (#[a],t)).cell? w=a:=sX
theorem SI{P:Nat}(c:Value.slice A n z=(X,n,cp)\/X=f)(d:∀(a:Nat),A=a->a=P->False)(e:P<f):(some X:Option Nat)≠P:=by
 grind
theorem LS{wr:World}{o:Obj}{i c s k:Nat}{a C:ce}(G:At af F m w m wr {S with Eg:={S.Eg with aK:=a++[Y]}})(H:n=C)(J:dN (c-n) (a++[Y]) C=dN c S.Eg.aK [])(U:a.length+1<=64)(B:∀y∈a++[Y],0<=y/\y<S.Eg.bV)(K:∀y∈C,0<=y/\y<S.Eg.bV)(W:∀(g:Nat),A=g->(m.aV (.cache X)=g/\m.cap (.cache X)=z)\/(∀d,m.aV d≠g)/\w<=g)(Z:n<c)(L:m.aV .aK=s)(D:k=a)(E:w2.ownsRow af 3 1 (cp,n+1,i) (n+1) (C.map I++[I Y]))(M:f.grownBy w2 cp)(N:f=wr.alloc o)(O:Value.slice A n z=(cp,n,i)\/cp=f)(Q:S.Eg.aC[X]?=some []):C6 af F m w S X c cp (n+1) i (w2.setCell (F.Eg,3) (s,k,m.cap .aK)):=by
 subst N;have t:=G.alloc o;have r8:cp=(wr.alloc o).heap.size->(∀d,m.aV d≠cp)/\w<=cp:=λh=>⟨λd e=>by have:=t.bj.lt e;omega,by rw[h];exact t.mv.size⟩
 have x:(m.aV (.cache X)=cp/\m.cap (.cache X)=i)\/(∀d,m.aV d≠cp)/\w<=cp:=cp2
 have l:At af F m w m w2 {S with Eg:={S.Eg with aK:=a++[Y]}}:=by
  obtain h|h:=x
  .exact t.Ld (r:=.cache X) (p:=(3,1)) ii h.1 (by simp[aj,Q]) h.2 M E
  grind [At.NP]
 have R:(a++[Y]).take k=a:=by rw[D];simp
 have T:F.Eg≠cp:=by
  obtain h|h:=x
  .exact l.bj.ne l.bj.aB.Eg h.1 sX
  exact λe=>h.1 .Eg (by rw[<-e];exact l.bj.aB.Eg)
 refine⟨⟨a,C++[Y],by simp[H],oX,?_,oX,λy q=>B y (by simp[q]),λy q=>?_,?_,?_⟩,λg e=>by cases e;exact x⟩
 .rw[<-J,show c-n=(c-(n+1))+1 by omega,LQ]
 .rw[ae4]at q;obtain h|h:=q
  .exact K y h
  exact B y (by simp[h])
 .have:=AN E (a:=(F.Eg,3)) T (s,k,m.cap .aK);simpa using this
 have h:=(l.Vv L (n:=k) (by simp[D]));simp[R]at h;exact h
theorem Fh:∀(k:Nat) (M C:ce),C<=(dN k M C).2.length
 |0,M,C=>rx _
 |k+1,M,C=>by
  unfold dN;split
  .exact rx _
  rename_i x h;have:=Fh k M.dropLast (C++[x]);simp at this;omega
theorem Is{M:ce}(c:1<=n)(h:dN n M []=([],[])):M=[]:=by
 cases a:M.getLast? with
 |none=>exact az5.1 a
 |some x=>
  obtain⟨q,rfl⟩:∃q,n=q+1:=⟨n-1,oX⟩;unfold dN at h;have:=Fh q M.dropLast ([]++[x]);grind
theorem Kj{w:World}{af k:Nat}(h:w.ownsRow af n 1 (A,z,X) z J)(o:k<=z)(p:0<z):w.ownsRow af n 1 (A,k,X) k (J.take k):=by
 let⟨q,c⟩:=h;obtain⟨_,c⟩|⟨d,cap,a,e,f,g,s,i,l,t⟩:=c
 .omega
 cases e;refine⟨ci8,.inr ⟨d,X,a,ii,f,g,oX,i,l,?_⟩⟩;grind
theorem It{w:World}{af:Nat}(h:w.ownsRow af n 1 (A,z,X) z J)(a:0<z):∃g:Nat,A=g/\z<=X/\g<w:=by
 let⟨c,d⟩:=h;grind
theorem BV{wr:World}{j:Nat}{C:ce}{M:ce}(l:At af F m w m wr {S with Eg:={S.Eg with aK:=M}})(o:S.Eg.aC[cp]?=some [])(e:z=C)(p:0<z)(a:wr.ownsRow af 3 1 (n,z,X) z (C.map I))(q:(m.aV (.cache cp)=n/\m.cap (.cache cp)=X)\/(∀s,m.aV s≠n)/\w<=n):To af F m w {S with Eg:={S.Eg with aK:=M,aC:=S.Eg.aC.set cp C.dropLast,bV:=S.Eg.bV.set j false}} ((wr.setCell (F.aC,cp) (n,z-1,X)).setCell (F.bV,j) (B false)):=by
 have f:=Kj a (k:=z-1) oX p;have t:C.dropLast=C.take (z-1):=by rw[List.dropLast_eq_take,e]
 have g:C.dropLast.length=z-1:=by rw[List.length_dropLast,e]
 rw[<-List.map_take,<-t]at f;have i:=(l.NQ (g:=cp) (gb:=n) (cp:=X) (c:=[]) (d:=C.dropLast) o (by rw[g];exact f) (by obtain h|h:=q;exact .inl h.1;exact .inr h)).bV j false;rw[g]at i;exact⟨_,i⟩
theorem Iu(R:bz af F w m S)(A:S.Eg.Ok)(g:Nat)(E:S.Eg.aC[g]?=some []):gt 154 #[F.Eg,I g] w (eL (.tuple #[(S.Eg.take g).2.1,.bool (S.Eg.take g).2.2]) λw'=>To af F m w {S with Eg:=(S.Eg.take g).1} w'):=by
 have eM:g<S.Eg.aC.length:=um E;have c2:=R.pf;have cc:=R.tH E;let⟨a,N,c⟩:=wT R E;rw[c]at cc;have hown:=R.owns (r:=.cache g) (p:=(3,1)) ii dX (n:=0) (by simp[aj,E]);have jM:aj m S (.cache g)=[]:=by simp only[aj,E,at5]
 rw[jM]at hown;rw[aj6]at c;rw[c]at hown;let⟨i,V7⟩:=dC (max 1 (S.Eg.most.toNat / 2));have Er:1<=i/\i<=8:=by have:=A.m0;have:=A.m1;omega
 let⟨i0,hi,fV,jC,gG⟩:=AC lC;have OH:1<=S.Eg.most/\S.Eg.most<=16:=⟨A.m0,A.m1⟩
 have O:Hid (C6 af F m w S g i a 0 N w):=by
  refine⟨⟨S.Eg.aK,[],ii,oX,sX,A.ml,A.mid,sX,hown,At.refl R⟩,λgb e=>?_⟩;subst e
  cases hb:m.aV (.cache g) with
  |none=>rw[Mem.j6 hb]at c;cases c
  |some b=>rw[Mem.de hb]at c;cases c;exact .inl ⟨ii,ii⟩
 let⟨Y,Kk⟩:=dC (S.Eg.most);rw[<-Kk]at OH;have G:(if(1:Int)<Y / 2 then Y / 2 else 1)=(i:Int):=oX
 have Zx:=ag Kk;have H:=ag V7;have lP:=ag A;have HC:=ag E;clear R E c hown jM V7 A Kk;go_enter func154,ntmps154;go_wp2;go_loopw [6,7] (λv _ wr=>∃a n N,v=.slice a n N/\n<=8/\Hid (C6 af F m w S g i a n N wr)) (λv _ _=>8-(match v with| .slice _ n _=>n|_=>0))
 case atStart=>exact⟨a,0,N,ii,oX,O⟩
 obtain⟨a,n,N,rfl,ax,HF⟩:=hrel;let⟨M,C,AO,RE,B,OG,Q,D,hown,hA⟩:=HF.out.ex;have R:=hA.bj;have c1:=R.NO;have c3:=R.uK;have c4:=R.Ho;have c0:=R.YB;rw[show({S with Eg:={S.Eg with aK:=M}}:Wd).Eg.most=Y from Zx.out.symm]at c1;let⟨ma,mc,J⟩:=uL R;have Z:m.cU .aK M.length=(ma,M.length,mc):=J;rw[J]at c3;have HA:=ag hA;by_cases hM:M=[]
 .have d:dN i S.Eg.aK []=([],C):=by rw[<-B,hM,OF]
  subst hM;have W:=ag d;by_cases vN:n=0
  .subst vN;have l:C=[]:=xn AO.symm;have s:S.Eg.take g=if S.Eg.cO<S.Eg.size then({S.Eg with cO:=S.Eg.cO+1},S.Eg.cO,true)else(S.Eg,0,false):=by unfold fS.take;simp only[HC.out,fS.filled,dt,<-H.out,d,l,List.getLast?_nil]
   have T:=ag s;let⟨f,X⟩:∃f:Nat,S.Eg.cO=f:=⟨S.Eg.cO.toNat,by have:=lP.out.f0;omega⟩;have ay:f<=64:=(by have:=lP.out.f1;have:=lP.out.len;omega);have aG:wr.cell? (F.Eg,4)=I f:=(by rw[<-X];exact c4);have f4:=R.frozen R.aB.Eg 4;have t:=Is Er.1 (by rw[d,l]);have z:At af F m w m wr S:=hA.eq (by cases S with|mk a1 a2 a3 a4 a5 a6 a7 a8 a9 aH p b1 b2 b3 b4=>cases p;simp at t;simp[t]);have ab:=ag z;have oi:=R.lt R.aB.Eg;have ad:wr.cell? ⟨F.Eg,3,none⟩=some (.slice ma 0 mc):=c3;let⟨U,LU⟩:=dC (S.Eg.size);have aJ:wr.cell? F.Eg=I U:=(by rw[LU];exact c0);by_cases L:(f:Int)<U
   .have hd:decide ((f:Int)<U)=true:=(by simpa using L);have K:Hid (S.Eg.take g=({S.Eg with cO:=f+1},(f:Int),true)):=cp2;have A1:=ag (z.cO (f+1));clear AO R l s X hA z t d W B hown Q D J Z O HF HA c4 c3 c0 LU T;go_wp2;go_quiet (fail);go_wp2;go_ret2;rw[K.out];exact⟨ii,_,A1.out.aI⟩
   have hd:decide ((f:Int)<U)=false:=(by simpa using L);have K:Hid (S.Eg.take g=(S.Eg,0,false)):=cp2;clear AO R l s X hA z t d W B hown Q D J Z O HF HA c4 c3 c0 LU T;go_wp2;go_quiet (fail);go_wp2;go_ret2;rw[K.out];exact⟨ii,_,ab.out.aI⟩
  have ad:wr.cell? ⟨F.Eg,3,none⟩=some (.slice ma 0 mc):=c3;have xS:0<n:=oX
  obtain⟨gb,rfl,rj,UO⟩:=It hown xS
  let⟨y,t⟩:∃y,C.getLast? =some y:=by
   exact cf6
  have OI:C≠[]:=by intro e;rw[e]at AO;simp at AO;omega
  let⟨y',NW,rN,_⟩:=pK OI;rw[t]at NW;obtain rfl:y=y':=mx NW;have Wa:=D y (lf rN);let⟨j,hj⟩:∃j:Nat,y=j:=⟨y.toNat,oX⟩;have vy:j<S.Eg.bV.length:=oX
  have s:S.Eg.take g=({S.Eg with aK:=[],aC:=S.Eg.aC.set g C.dropLast,bV:=S.Eg.bV.set j false},(j:Int),true):=by unfold fS.take;simp only[HC.out,fS.filled,dt,<-H.out,d,t];grind
  have T:=ag s;let⟨q,U⟩:∃q,n=q+1:=⟨n-1,oX⟩;have Zy:=bM9;rw[U,show q+1-1=q by omega]at Zy;have cy:wr.cell? ⟨gb,q,none⟩=I j:=by rw[hown.cellAt q oX,na];grind
  have VU:IntKind.i64.wrap (((q+1:Nat):Int)-1)=(q:Int):=cx7
  have ae:=R.pf;have ah:=R.Bz;have ai:=R.tH HC;have ak:=bM7;let⟨z,Ki⟩:∃z,S.Eg.bV[j]?=some z:=⟨_,fv vy⟩;have al:=R.bV (j:=j) (b:=z) Ki;have ao:=R.frozen R.aB.bV j;obtain⟨oi,oy,sQ,lS,oj,lT,lU,om,lV⟩:=bM8;subst U;clear R hA B hown Q D J Z O HF HA Wa rN t NW OI hj s Ki AO d W c3 G;go_wp2;go_region;go_wp2;go_ret2;rw[T.out];exact⟨ii,by let⟨mm,c⟩:=Zy.out;exact⟨mm,c.aI⟩⟩
 obtain⟨l,x,rfl⟩:∃l x,M=l++[x]:=⟨_,_,(List.dropLast_concat_getLast hM).symm⟩;let⟨mb,W⟩:=R.has (r:=.aK) cs9;have G7:m.cU .aK (l++[x]).length=.slice mb (l++[x]).length (m.cap .aK):=Mem.de W;have X:=R.uK;rw[show({S with Eg:={S.Eg with aK:=l++[x]}}:Wd).Eg.aK.length=(l++[x]).length from ii,G7]at X;have yU:=R.NH (r:=.aK) (p:=(3,1)) ii dX W;simp only[aj,ko,aU7,sV,aj6,at8]at yU;rw[aU7]at X OG;simp only[sV,aj6]at X OG;let⟨k,hk⟩:=dC (l.length);have a0:wr.cell? ⟨F.Eg,3,none⟩=some (.slice (some ⟨mb,0,none⟩) (k+1) (m.cap .aK)):=by rw[hk];simpa using X
 have aN:k<=64:=oX
 have aO:k+1<=m.cap .aK:=oX
 have aQ:0<k+1:=oX
 have cx:wr.cell? (mb,k)=some (I x):=R.cell W (by simp[aj,hk]);have f3:=R.frozen R.aB.Eg 3;by_cases dD:n<i
 .have VU:IntKind.i64.wrap (((k+1:Nat):Int)-1)=(k:Int):=by rw[jX oX];omega
  let⟨HK,RF,UP,aq,ar,au⟩:=mr hk AO B Q D hown;have av:=ag OG;have Zz:=ag W;have aw:=R.eS;have xS:n+1<=maxLen:=cj7
  have EI:(n+1)*8<=140737488355328:=oX
  have oi:=R.lt R.aB.Eg;have Ep:=ag (λgb (e:a=some ⟨gb,0,none⟩) (q:gb=F.Eg)=>(by
   obtain h|h:=HF.out.C7 gb e
   .exact R.ne h.1 R.aB.Eg sX q
   exact h.1 .Eg (by rw[q];exact R.aB.Eg):False))
  clear R hM hk AO B Q D hown J Z c3 X OG O hA G7 yU W;go_wp2_with (at_builtin;go_loud (refine aX3 ii (.tmp 47) (.tmp 55) 28 rfl af 3 i0 (.int .i64 0) 8 underlying28 hi fV jC gG ii n (C.map I) ii (ou (o:=.cells #[I x] 3) au ii) ⟨wr.heap.size,0,none⟩ 1 (I x) ii (vZ) ii xS EI ci8 ?_;intro g2 hU w2 fu jV K;have L:=SI (P:=F.Eg) K Ep ci8;have aR:=fW (o:=.cells #[I x] 3) jV a0 ii L;have aS:=fN (o:=.cells #[I x] 3) jV f3 oi ii L;let⟨OJ,nU,Rr⟩:=ij fu jV K;clear fu jV K L a0 f3));go_roundw
  case rel=>exact⟨some ⟨g2,0,none⟩,n+1,hU,⟨ii,ii,ii⟩,oX,LS HA RF UP av aq ar HF.out.C7 dD Zz HK OJ nU ii Rr HC⟩
  omega
 have K:n=i:=oX
 have d:dN i S.Eg.aK []=(l++[x],C):=by rw[<-B,K,bG9,LR]
 have xS:0<n:=oX
 obtain⟨gb,rfl,rj,UO⟩:=It hown xS
 let⟨y,t⟩:∃y,C.getLast? =some y:=by
  exact cf6
 have OI:C≠[]:=by intro e;rw[e]at AO;simp at AO;omega
 let⟨y',NW,rN,_⟩:=pK OI;rw[t]at NW;obtain rfl:y=y':=mx NW;have Wa:=D y (lf rN);let⟨j,hj⟩:∃j:Nat,y=j:=⟨y.toNat,oX⟩;have vy:j<S.Eg.bV.length:=oX
 have s:S.Eg.take g=({S.Eg with aK:=l++[x],aC:=S.Eg.aC.set g C.dropLast,bV:=S.Eg.bV.set j false},(j:Int),true):=by unfold fS.take;simp only[HC.out,fS.filled,dt,<-H.out,d,t];rw[hj,oU]
 have T:=ag s;let⟨q,U⟩:∃q,n=q+1:=⟨n-1,oX⟩;have Zy:=bM9;rw[U,show q+1-1=q by omega]at Zy;have cy:wr.cell? ⟨gb,q,none⟩=I j:=by rw[hown.cellAt q oX,na];rw[<-AO,U,show q+1-1=q by omega]at rN;rw[rN,hj];rfl
 have VU:IntKind.i64.wrap (((q+1:Nat):Int)-1)=(q:Int):=cx7
 have ae:=R.pf;have ah:=R.Bz;have ai:=R.tH HC;have ak:=bM7;let⟨z,Ki⟩:∃z,S.Eg.bV[j]?=some z:=⟨_,fv vy⟩;have al:=R.bV (j:=j) (b:=z) Ki;have ao:=R.frozen R.aB.bV j;obtain⟨oi,oy,sQ,lS,oj,lT,lU,om,lV⟩:=bM8;subst U;have L:(if(1:Int)<Y / 2 then Y / 2 else 1)=((q+1:Nat):Int):=by rw[G,<-K]
 clear R hA B hown Q D J Z O HF HA Wa rN t NW OI hj s Ki AO d hM hk W G7 X yU G K dD RE;go_wp2;go_region;go_wp2;go_ret2;rw[T.out];exact⟨ii,by let⟨mm,c⟩:=Zy.out;exact⟨mm,c.aI⟩⟩
theorem yW(R:bz af F w m S)(a:S.Eg.Ok)(g:Nat)(f:g<S.Eg.aC):gt 154 #[F.Eg,I g] w (eL (.tuple #[(S.Eg.take g).2.1,.bool (S.Eg.take g).2.2]) λw'=>To af F m w {S with Eg:=(S.Eg.take g).1} w'):=by
 let⟨c,d⟩:∃c,S.Eg.aC[g]?=some c:=⟨_,fv f⟩;by_cases e:c=[]
 .subst e;exact Iu R a g d
 exact Ir R a g c d e
theorem At.LV(A:At af F m0 u m w S){g c:Nat}{l:ce}(d:w.grownBy w' (m.aV .aK))(a:w'.ownsRow af 3 1 (g,l.length,c) l (l.map I))(e:m.aV .aK=g\/w<=g):At af F m0 u (m.eG .aK g c) (w'.setCell (F.Eg,3) (g,l.length,c)) {S with Eg:={S.Eg with aK:=l}}:=by
 refine A.row (p:=(3,1)) ii ck4 A.bj.aB.Eg sX d a e cs9 ?_ ?_
 .simp[aj,Mem.cU,Mem.eG]
 intro f i n
 cases f<;>first|exact aX ii i|exact aX ii n|rfl|(simp[aj,Mem.cU,Mem.ptr,Mem.eG,reduceCtorEq,dF])|skip
 all_goals
  first
  |(first|(simp[gk,Mem.cU,Mem.eG])|(simp[je,Mem.cU,Mem.eG]))
  |(·intro k x _)
theorem At.Iv(A:At af F m0 u m w S){g gb:Nat}{c d:ce}(h:S.Eg.aC[g]?=c)(e:w.grownBy w' (m.aV (.cache g)))(a:w'.ownsRow af 3 1 (gb,d.length,cp) d (d.map I))(f:m.aV (.cache g)=gb\/w<=gb):At af F m0 u (m.eG (.cache g) gb cp) (w'.setCell (F.aC,g) (gb,d.length,cp)) {S with Eg:={S.Eg with aC:=S.Eg.aC.set g d}}:=
 A.row (p:=(3,1)) ii ck4 A.bj.aB.aC sX e a f (by simp[aj,oG h]) (rM h gb cp) (tg h _ _)
theorem OL(R:bz af F w m S)(c:S.Eg.Ok)(g:Nat)(x:Int)(f:g<S.Eg.aC)(d:S.Eg.cK x=false):gt 158 #[F.Eg,I g,x] w (eL (.bool false) λw'=>At af F m w m w' S):=by
 have a:=ag (BA R x c.f1);rw[d]at a;have:=R.pf;go_enter func158,ntmps158;go_wp2_with (first|(go_at_call 207;refine a.out.mono ?_;rintro e w' ⟨rfl,rfl⟩)|go_in);go_ret;exact⟨ii,ag (At.refl R)⟩
theorem Iw(M C:ce):nS 0 M C=(M,C):=rfl
theorem Ix(n:Nat)(M C:ce)(x:Int):nS (n+1) M (C++[x])=nS n (M++[x]) C:=by simp[nS]
structure yX(af:Nat)(F:Fx)(m:Mem)(w:World)(S:Wd)(g h:Nat)(c:ce)(k:Nat)(wr:World):Prop where
 ex:∃m1 M,At af F m w m1 wr {S with Eg:={S.Eg with aK:=M}}/\nS (k-h) M (c.take k)=nS (c-h) S.Eg.aK c/\M<=100-k/\m1.aV (.cache g)=m.aV (.cache g)/\m1.cap (.cache g)=m.cap (.cache g)
theorem yY{W2 W3:World}{g x k:Nat}{c M:ce}{v:Value}{o:Obj}(A:At af F m w D W2 {S with Eg:={S.Eg with aK:=M}})(t:S.Eg.aC[g]?=c)(y:W3.heap=(W2.alloc o).heap)(a:W3.os=W2.os)(e:W3.tape=W2.tape)(i:W3.output=W2.output)(J:k<=c)(C:v.ownBlock=D.aV (.cache g))(E:f.ownsRow af 3 1 (n,k+1,z) (k+1) ((c.take k).map I++[I x]))(l:W3.grownBy f v.ownBlock)(p:v.ownBlock=n\/W3<=n):To af F m w {S with Eg:={S.Eg with aK:=M,aC:=S.Eg.aC.set g (c.take k++[(x:Int)]),bV:=S.Eg.bV.set x true}} ((f.setCell (F.aC,g) (n,k+1,z)).setCell (F.bV,x) (B true)):=by
 rw[C]at l p;have q:(c.take k++[(x:Int)]).length=k+1:=ci8
 have G:(c.take k++[(x:Int)]).map I=(c.take k).map I++[I x]:=sX
 have H:=((A.alloc o).aI y a e i).Iv (g:=g) (gb:=n) (cp:=z) (c:=c) (d:=c.take k++[(x:Int)]) t l (by rw[q,G];exact E) p;have s:=H.bV x true;rw[q]at s;exact⟨_,s⟩
theorem Iy{m:Mem}{r:bH}(a:D.aV r=m.aV r)(c:D.cap r=m.cap r)(n:Nat):D.cU r n=m.cU r n:=by simp[Mem.cU,a,c]
theorem Iz{wr W3:World}{h cap:Nat}{c M:ce}{v:Value}{o:Obj}(A:At af F m w D wr {S with Eg:={S.Eg with aK:=M}})(q:nS (z+1-h) M (c.take (z+1))=nS (c-h) S.Eg.aK c)(H:M<=100-(z+1))(s:D.aV (.cache n)=m.aV (.cache n))(t:D.cap (.cache n)=m.cap (.cache n))(J:z<c)(x:c[z]?=Y)(K:h<=z)(L:z<=90)(y:W3.heap=(wr.alloc o).heap)(a:W3.os=wr.os)(d:W3.tape=wr.tape)(e:W3.output=wr.output)(B:v.ownBlock=D.aV .aK)(C:f.ownsRow af 3 1 (X,M.length+1,cap) (M+1) (M.map I++[I Y]))(g:W3.grownBy f v.ownBlock)(i:v.ownBlock=X\/W3<=X):yX af F m w S n h c z (f.setCell (F.Eg,3) (X,M.length+1,cap)):=by
 rw[B]at g i;have k:(M++[Y]).length=M.length+1:=sX
 have E:(M++[Y]).map I=M.map I++[I Y]:=sX
 have p:=((A.alloc o).aI y a d e).LV (g:=X) (c:=cap) (l:=M++[Y]) g (by rw[k,E];exact C) i;rw[k]at p;refine⟨_,M++[Y],p,?_,oX,?_,?_⟩
 .rw[<-q,show z+1-h=(z-h)+1 by omega];have G:c.take (z+1)=c.take z++[Y]:=by rw[al6,x];rfl
  rw[G,Ix]
 .exact s
 exact t
theorem IA(R:bz af F w m S)(L:S.Eg.Ok)(g:Nat)(x:Nat)(c:ce)(D:S.Eg.aC[g]?=c)(hl:S.Eg.cK x):gt 158 #[F.Eg,I g,I x] w (oV λw'=>To af F m w {S with Eg:=(S.Eg.nh g x).1} w'):=by
 have HL:=ag (BA R x L.f1);rw[hl]at HL;have eM:g<S.Eg.aC.length:=um D;have cR:=L.cl c (lf D);have OH:1<=S.Eg.most/\S.Eg.most<=16:=⟨L.m0,L.m1⟩;have vI:x<S.Eg.bV.length:=by unfold fS.cK at hl;simp only[qs,lm]at hl;have:=L.f1;omega
 let⟨i0,hi,fV,jC,gG⟩:=AC lC;have c1:=R.NO;have c2:=R.pf;have c3:=R.uK;have cc:=R.tH D;let⟨a,B,U⟩:=wT R D;rw[U]at cc;let⟨n,H⟩:=dC (c.length);rw[<-H]at cc cR;let⟨mo,Z⟩:∃mo:Nat,S.Eg.most=mo:=⟨S.Eg.most.toNat,oX⟩;rw[Z]at c1 OH;have HR:=bM3;have OM:S.Eg.nh g x=({S.Eg with aK:=(S.Eg.mu c).1,aC:=S.Eg.aC.set g ((S.Eg.mu c).2++[(x:Int)]),bV:=S.Eg.bV.set x true},true):=by grind [fS.nh]
 have J:=ag OM;by_cases oI:n=mo
 .subst oI;let⟨h,AP⟩:=dC (n / 2);have ab:(n:Int) / 2=(h:Int):=by omega
  have G:S.Eg.mu c=nS (c.length-h) S.Eg.aK c:=by unfold fS.mu;rw[aF (by rw[Z,H]),Z,oU,AP]
  rw[G]at J;have EI:((n:Int)==(n:Int))=true:=sX
  have W:Hid (yX af F m w S g h c n w):=⟨m,S.Eg.aK,HR,by rw[yl oX,H],by have:=L.ml;omega,ii,ii⟩;have a1:h<=n:=oX
  have ad:h<=8:=oX
  have ON:h+1<=n:=oX
  have ae:=ag AP;let⟨HN,HC,HH,Zx⟩:=ia H D U Z;clear R L hl D H Z OM G U AP;go_enter func158,ntmps158;go_wp2_with (first|(go_at_call 207;refine HL.out.mono ?_;rintro e w' ⟨rfl,rfl⟩)|go_in);go_loopw [7,8] (λv _ wr=>∃k:Nat,v=(a,k,B)/\h<=k/\k<=n/\Hid (yX af F m w S g h c k wr)) (λv _ _=>(match v with| .slice _ n _=>n|_=>0))
  case atStart=>exact⟨n,ii,a1,rx _,W⟩
  obtain⟨k,rfl,jg,jO,HS⟩:=hrel;let⟨m1,M,hA,G,hM,X,Fi⟩:=HS.out.ex;have R:=hA.bj;have c1:=R.NO;have c3:=R.uK;let⟨ma,mc,Nt⟩:=uL R;rw[Nt]at c3;rw[show({S with Eg:={S.Eg with aK:=M}}:Wd).Eg.most=(n:Int)from Zx.out]at c1;have HA:=ag hA;by_cases dD:h<k
  .obtain⟨q,rfl⟩:∃q,k=q+1:=⟨k-1,oX⟩;have hq:q<c.length:=by rw[<-HN.out];omega
   let⟨y,hy⟩:∃y,c[q]?=some y:=⟨_,fv hq⟩;have N:=bN0;have O:aj m1 ({S with Eg:={S.Eg with aK:=M}}:Wd) (.cache g)=c.map I:=(by simp only[aj,HC.out]);rw[O,Iy X Fi,HN.out,HH.out,<-HN.out]at N;let⟨gb,ha,ah,UO⟩:=It N oX;subst ha;have cy:wr.cell? ⟨gb,q,none⟩=some (I y):=(by rw[N.cellAt q oX,na,hy];rfl);have d:=R.owns (r:=.aK) (p:=(3,1)) ii dX (n:=M.length) cs9;have UQ:aj m1 ({S with Eg:={S.Eg with aK:=M}}:Wd) .aK=M.map I:=rfl;have C8:m1.cU .aK M.length=(ma,M.length,mc):=Nt;rw[UQ,C8]at d;have A:(Value.slice ma M.length mc).ownBlock=m1.aV .aK:=(by rw[<-C8,Mem.mM]);have f3:=R.frozen R.aB.Eg 3;have oi:=R.lt R.aB.Eg;have f:=R.eS;let⟨ml,UR⟩:=dC (M.length);have a2:wr.cell? ⟨F.Eg,3,none⟩=some (.slice ma ml mc):=(by rw[UR];exact c3);rw[<-UR]at d A;have xS:ml<1000001:=oX;have Np:=ag (λ(C:Array Oper) (o:Oper) (ac:Act) (K:Act->World->Prop) (Q:Exit->Act->World->Prop) (E:Prop) (W3:World)=>jN (P:=prog) (ops:=C) (o:=o) (a:=ac) (K:=K) (Q:=Q) (E:=E) (s:=.tmp 48) (x:=.tmp 53) (t:=28) (ht:=underlying28) (hi:=hi) (hz:=fV) (hsize:=jC) (hby:=gG) (hzs:=rfl) (hsz:=ax5) (hbb:=vJ) (w2:=wr) (W3:=W3) (us:=#[I y]) (hus:=rfl) (h1:=aI8 y) (v:=(ma,ml,mc)) (n:=ml) (xs:=M.map I) (hown:=d) (hn:=xS) (hbase:=f));have Ep:=ag (show(Value.slice ma ml mc).ownBlock≠some F.Eg by rw[A];exact R.jv R.aB.Eg sX);have VU:IntKind.i64.wrap (((q+1:Nat):Int)-1)=(q:Int):=cx7;have ai:q+1<=B:=oX;have ak:(q:Int)<(q:Int)+1:=oX;let⟨Kc,HY,HQ,Y,HM,pH⟩:=mr A hy hq G hM X;let⟨Sz,G8⟩:=dA Fi UR;clear R hA G hM X Fi hq hy N O d UQ Nt C8 A UR c3 cc c2 W HS;go_wp2;go_region_law (refine Np _ _ _ _ _ _ _ ii ii ii ii ii ?_;intro gg cap w3 z bX T;have al:=fW (o:=.cells #[I y] 3) bX a2 ii Ep;have ao:=fN (o:=.cells #[I y] 3) bX f3 oi ii Ep;let⟨Iq,Ns,SH⟩:=ij z bX T;clear z bX T)
   all_goals
    go_wp2;go_roundw
    case rel=>exact⟨q,ii,oX,oX,by have ho:=Iq.out;have hg:=Ns.out;have hw:=SH.out;have:=Iz (W3:=(wr.alloc (.cells #[I y] 3)).drew) (o:=.cells #[I y] 3) HA Y HM pH Sz HQ HY oX oX ii ii ii ii Kc (by rw[<-G8.out];exact ho) hg hw;rwa[<-G8.out]at this⟩
    first|omega|exact Nat.lt_succ_self _|(simp;done)
  obtain rfl:k=h:=oX
  have N:=bN0;have O:aj m1 ({S with Eg:={S.Eg with aK:=M}}:Wd) (.cache g)=c.map I:=by simp only[aj,HC.out]
  rw[O,Iy X Fi,HN.out,HH.out,<-HN.out]at N;have d:=Kj N (k:=k) jO oX;rw[<-List.map_take]at d
  have A:(Value.slice a k B).ownBlock=m1.aV (.cache g):=by
   rw[X,<-Mem.mM m (.cache g) c.length,HH.out]
   cases a<;>rfl
  have fcc:=bM7;have c5:=R.Bz;have a3:=R.pf;have a0:=R.tH (S:={S with Eg:={S.Eg with aK:=M}}) HC;rw[Iy X Fi,HH.out,<-HN.out]at a0;let⟨oH,Ki⟩:∃oH,S.Eg.bV[x]?=some oH:=⟨_,fv vI⟩;have ch:=R.bV (j:=x) (b:=oH) Ki;have fh:=R.frozen R.aB.bV x;obtain⟨oi,oy,sQ,lS,oj,lT,lU,om,lV⟩:=bM8;have f:=R.eS;have xS:k<1000001:=oX
  have Np:=ag (λ(C:Array Oper) (o:Oper) (ac:Act) (K:Act->World->Prop) (Q:Exit->Act->World->Prop) (E:Prop) (W3:World)=>jN (P:=prog) (ops:=C) (o:=o) (a:=ac) (K:=K) (Q:=Q) (E:=E) (s:=.tmp 65) (x:=.tmp 67) (t:=28) (ht:=underlying28) (hi:=hi) (hz:=fV) (hsize:=jC) (hby:=gG) (hzs:=rfl) (hsz:=ax5) (hbb:=vJ) (w2:=wr) (W3:=W3) (us:=#[I x]) (hus:=rfl) (h1:=aI8 x) (v:=(a,k,B)) (n:=k) (xs:=(c.take k).map I) (hown:=d) (hn:=xS) (hbase:=f));have Ep:=ag (show(Value.slice a k B).ownBlock≠some F.Eg by rw[A];exact R.jv R.aB.Eg sX);have RF:=ag (show(Value.slice a k B).ownBlock≠some F.aC by rw[A];exact R.jv R.aB.aC sX);have ZA:=ag (show(Value.slice a k B).ownBlock≠some F.bV by rw[A];exact R.jv R.aB.bV sX);let⟨Kc,Y⟩:=dA A G;clear R hA G hM X Fi Ki N O d Nt A c2 cc W HS;go_wp2;go_region_law (refine Np _ _ _ _ _ _ _ ii ii ii ii ii ?_;intro gg cap w3 z bX T;have a4:=fW (o:=.cells #[I x] 3) bX a3 ii Ep;obtain⟨a5,a6,a7,a8⟩:=bK3;have a9:=fW (o:=.cells #[I x] 3) bX a0 ii RF;let⟨Iq,Ns,SH⟩:=ij z bX T;clear z bX T)
  all_goals
   go_wp2;go_ret;rw[J.out];refine⟨ii,?_⟩;have hs:=Y.out;rw[bG9,Iw]at hs;rw[<-hs];exact yY (W2:=wr) (W3:=(wr.alloc (.cells #[I x] 3)).drew) (o:=.cells #[I x] 3) (g:=g) (x:=x) (k:=k) HA HC ii ii ii ii (by rw[<-HN.out];exact jO) Kc Iq Ns SH
 have G:S.Eg.mu c=(S.Eg.aK,c):=by unfold fS.mu;rw[aE oX]
 rw[G]at J;have d:=R.owns (r:=.cache g) (p:=(3,1)) ii dX (n:=n) (by simp[aj,D,H]);have O:aj m S (.cache g)=c.map I:=by simp only[aj,D]
 rw[O]at d;rw[<-H]at U;have A:(Value.slice a n B).ownBlock=m.aV (.cache g):=by rw[<-U,Mem.mM]
 rw[U]at d;have EI:((n:Int)==(mo:Int))=false:=ci8
 have fcc:=bM7;have c5:=R.Bz;let⟨oH,Ki⟩:∃oH,S.Eg.bV[x]?=some oH:=⟨_,fv vI⟩;have ch:=R.bV Ki;have fh:=R.frozen R.aB.bV x;obtain⟨oi,oy,sQ,lS,oj,lT,lU,om,lV⟩:=bM8;have f:=R.eS;have xS:n<1000001:=oX
 have Np:=ag (λ(C:Array Oper) (o:Oper) (ac:Act) (K:Act->World->Prop) (Q:Exit->Act->World->Prop) (E:Prop) (W3:World)=>jN (P:=prog) (ops:=C) (o:=o) (a:=ac) (K:=K) (Q:=Q) (E:=E) (s:=.tmp 65) (x:=.tmp 67) (t:=28) (ht:=underlying28) (hi:=hi) (hz:=fV) (hsize:=jC) (hby:=gG) (hzs:=rfl) (hsz:=ax5) (hbb:=vJ) (w2:=w) (W3:=W3) (us:=#[I x]) (hus:=rfl) (h1:=aI8 x) (v:=(a,n,B)) (n:=n) (xs:=c.map I) (hown:=d) (hn:=xS) (hbase:=f));have Ep:=ag (show(Value.slice a n B).ownBlock≠some F.Eg by rw[A];exact R.jv R.aB.Eg sX);have RF:=ag (show(Value.slice a n B).ownBlock≠some F.aC by rw[A];exact R.jv R.aB.aC sX);have ZA:=ag (show(Value.slice a n B).ownBlock≠some F.bV by rw[A];exact R.jv R.aB.bV sX);let⟨Kc,HN,HC⟩:=ij A H D;clear R L hl D H Z OM G d O A U Ki oI;go_enter func158,ntmps158;go_wp2_with (first|(go_at_call 207;refine HL.out.mono ?_;rintro e w' ⟨rfl,rfl⟩)|go_in);go_region_law (refine Np _ _ _ _ _ _ _ ii ii ii ii ii ?_;intro gg cap w3 z bX T;have a4:=fW (o:=.cells #[I x] 3) bX c2 ii Ep;obtain⟨a5,a6,a7,a8⟩:=bK3;have a9:=fW (o:=.cells #[I x] 3) bX cc ii RF;let⟨Iq,Ns,SH⟩:=ij z bX T;clear z bX T)
 all_goals
  go_wp2;go_ret;rw[J.out];refine⟨ii,?_⟩;have N:At af F m w m w {S with Eg:={S.Eg with aK:=S.Eg.aK}}:=HR.out;have W:=yl (l:=c) (i:=n) (by rw[HN.out];exact rx _);have:=yY (W2:=w) (W3:=(w.alloc (.cells #[I x] 3)).drew) (o:=.cells #[I x] 3) (g:=g) (x:=x) (k:=n) N HC ii ii ii ii (by rw[HN.out];exact rx _) Kc (by rw[W];exact Iq) Ns SH;rwa[W]at this
end
@[simp] theorem bF3(n:Nat):n<=n+1+1:=oX
def kL(w W:World):Prop:=Below w w W
section
variable{w:World}
@[simp] theorem kb(w:World):kL w w:=fp
@[simp] theorem ah9(h:kL w f) (o:Obj):kL w (f.alloc o):=Below.alloc h h.size o
@[simp] theorem m8(h:kL w f):kL w f.drew:=Below.drew h
@[simp] theorem Gv(h:kL w f) {a:Addr} (b:w<=a.block) (v:Value):kL w (f.setCell a v):=Below.setCell h b v
@[simp] theorem by1(h:kL w f) (o p:Obj):kL w ((f.alloc o).alloc p):=ah9 (ah9 h o) p
@[simp] theorem bD0(h:kL w f) (o p q:Obj):kL w (((f.alloc o).alloc p).alloc q):=ah9 (by1 h o p) q
@[simp] theorem aU9(h:kL w f)  (a:w<=b) (x y:Value):kL w ((f.setCell (b,n) x).setCell (b,z) y):=Gv (Gv h a x) a y
@[simp] theorem bD1(h:kL w f)  (c:w<=b) (x y a:Value):kL w (((f.setCell (b,n) x).setCell (b,z) y).setCell (b,X) a):=Gv (aU9 h c x y) c a
theorem kL.trans(h:kL w f)(a:kL f w2):kL w w2:=Below.trans h (Below.mono a h.size)
theorem kL.cell(h:kL w f){a:Addr}{v:Value}(b:w.cell? a=v):f.cell? a=v:=cw h cG a v b
end
theorem kL.heap{w W:World}(h:kL w W){b:Nat}{o:Obj}(a:w.heap[b]?=o):W.heap[b]?=o:=(Below.block h b (dh a).1).trans a
def aV2(P:Nat->Prop)(w W:World):Prop:=w<=W.heap.size/\∀k,k<w.heap.size->P k->W.heap[k]?=w.heap[k]?
theorem kL.ER{P:Nat->Prop}(h:kL u f):aV2 P u f:=⟨h.size,λk a _=>Below.block h k a⟩
theorem aV2.trans{P:Nat->Prop}{w W a:World}(h:aV2 P w W)(b:kL W a):aV2 P w a:=⟨jm h.1 b.size,λk c d=>(Below.block b k (uB c h.1)).trans (h.2 k c d)⟩
theorem aV2.cell{P:Nat->Prop}(h:aV2 P u f){v:Value}(c:P b)(a:u.cell? (b,n)=v):f.cell? (b,n)=v:=by
 rw[kZ (w:=u) (h.2 b (ba0 u (b,n) a) c)];exact a
section
variable{fn:Func}{p p2 t:Tmp}{ty ty2 t2 t3:TypeId}{Ru:dl}{fr Au:Nat×Nat}{Q:Ending->World->Prop}
theorem idb{e:Exit}{a:Act}(h:bodyPost prog fn Q e a u):bodyPost prog fn Q e a u:=h
theorem bw0(h:fn.results=#[.cell p ty,.cell p2 ty2,.tmp t])(a:us.getD p undef=b)(c:us.getD p2 undef=n)(d:u.heap[b]?=some (.cells c2 t2 fr))(e:u.heap[n]?=some (.cells Ru t3 Au))(f:Row ty c2.size)(hu2:Row ty2 Ru.size)(g:Q (Value.tuple #[.agg c2,.agg Ru,us.getD t undef]) u):bodyPost prog fn Q .ret ⟨us,[]⟩ u:=⟨ii,_,by simp[results,h,by simpa using a,by simpa using c,asAddr,bb4 f d,bb4 hu2 e],g⟩
theorem aw1{d e:Value}(h:u.heap[b]?=some (.cells #[d,e] t2 (0,0)))(a c:Value):((u.setCell b a).setCell (b,1) c).heap[b]?=some (.cells #[a,c] t2 (0,0)):=
 ms _ b 1 _ _ c (ms u b 0 _ _ a h)
theorem aJ1{e f g:Value}(h:u.heap[b]?=some (.cells #[e,f,g] t2 (0,0)))(a c d:Value):(((u.setCell b a).setCell (b,1) c).setCell (b,2) d).heap[b]?=some (.cells #[a,c,d] t2 (0,0)):=
 ms _ b 2 _ _ d (ms _ b 1 _ _ c (ms u b 0 _ _ a h))
end
def qf(a:World)(b:Nat)(c:dl):Prop:=(∀W,kL a W->∀(q:Nat),q<c.size->W.cell? (b,q)=c[q]?)/\∀W,kL a W->∀(q:Nat),W.frozen? (b,q)=false
theorem aI3{t:TypeId}(h:u.heap[b]?=some (.cells us t (0,0))):qf u b us:=⟨λW a q c=>by rw[xL c];exact a.cell (by rw[cr h,xL c]),λW a q=>by rw[Below.frozen a (p:=⟨b,q,none⟩) ((dh h).1)];exact iM _ _ _ h⟩
theorem qf.alloc{c:World}{b:Nat}{d:dl}(h:qf c b d)(o:Obj):qf (c.alloc o) b d:=⟨λW a=>h.1 W ((ah9 (kb _) o).trans a),λW a=>h.2 W ((ah9 (kb _) o).trans a)⟩
theorem Z9{w:World}{c1:dl}{t1:TypeId}(h:w.alloc (c1,t1)=u):kL w u/\u=w.heap.size+1/\qf u w c1/\Hid (u.heap[w.heap.size]?=some (.cells c1 t1 (0,0))):=by
 subst h;exact⟨sX,sX,aI3 (t:=t1) (dP),dP⟩
theorem qf.later(h:qf u b us)(l:kL u f):qf f b us:=⟨λa c=>h.1 a (l.trans c),λa c=>h.2 a (l.trans c)⟩
theorem bj3{t:TypeId}(l:kL (u.alloc (us,t)) f):kL u f/\qf f u us:=⟨kL.trans (by simp) l,((Z9 (t1:=t) ii).2.2.1).later l⟩
theorem aa0{w:World}{c1:dl}{t1 t2:TypeId}(h:(w.alloc (c1,t1)).alloc (c2,t2)=u):kL w u/\u=w.heap.size+2/\qf u w c1/\qf u (w+1) c2/\Hid (u.heap[w.heap.size+1]?=some (.cells c2 t2 (0,0))):=by
 let⟨_,s,a,_⟩:=Z9 (w:=w) (c1:=c1) (t1:=t1) ii;let⟨_,_,b,c⟩:=Z9 h;subst h;rw[s]at b c;exact⟨sX,sX,a.alloc _,b,c⟩
theorem bs0{w:World}{c1 c3:dl}{t1 t2 t3:TypeId}(h:((w.alloc (c1,t1)).alloc (c2,t2)).alloc (c3,t3)=u):kL w u/\u=w.heap.size+3/\qf u w c1/\qf u (w+1) c2/\qf u (w+1+1) c3/\Hid (u.heap[w.heap.size+1+1]?=some (.cells c3 t3 (0,0))):=by
 obtain⟨_,s,a,b,_⟩:=bN1;let⟨_,_,c,d⟩:=Z9 h;subst h;rw[s]at c d;exact⟨sX,sX,a.alloc _,b.alloc _,c,d⟩
structure nR(α:Type) where
 n:Nat
 F:(Nat->Prop)->World->α->bi->Prop
 len:∀{P w x cs},F P w x cs->cs=n
 one:∀{P w x cs},F P w x cs->∀u∈cs,u.oneCell'
 later:∀{P w W x cs},aV2 P w W->F P w x cs->F P W x cs
 mono:∀{P P' w x cs},(∀k,k<w.heap.size->P k->P' k)->F P w x cs->F P' w x cs
def OC{α:Type}(E:nR α)(P:Nat->Prop)(w:World)(b:List α)(a:List bi):Prop:=a=b.length/\∀(k:Nat) x c,b[k]?=some x->a[k]?=some c->E.F P w x c
def wS{α:Type}(E:nR α)(P:Nat->Prop)(e w:World)(a:am)(d:List α):Prop:=
 d.length<=1000000/\∃c,OC E P e d c/\(d≠[]->∃b off:Nat,a=(b,off)/\P b/\∀(j:Nat) v,c.flatten[j]?=some v->w.cell? (b,off+j)=v)
abbrev ix{α:Type}(E:nR α)(P:Nat->Prop)(w:World)(a:Option Addr)(b:List α):Prop:=wS E P w w a b
def Own{α:Type}(E:nR α)(e:TypeId)(P:Nat->Prop)(d c w:World)(v:Value)(b:List α):Prop:=
 kL c w/\b.length<=1000000/\∃a,OC E P d b a/\w.ownsRow c e E.n v b a.flatten
section
variable{α:Type}{E:nR α}{P:Nat->Prop}{e:TypeId}{W W':World}{xs ys:List α}{css:List bi}{v:Value}
theorem OC.len(h:OC E P f xs css):css.flatten=xs.length*E.n:=by
 have:∀(l:List bi),(∀c∈l,c.length=E.n)->l.flatten.length=l.length*E.n:=by
  intro l;induction l with
  |nil=>simp
  |cons c l ih=>intro b;rw[as5,aU7,ih λd g=>b d (nO _ g),b c rn,sV,al9,Nat.add_comm]
 rw[this css λc i=>?_,h.1];let⟨k,g⟩:=ae3.1 i;have b:k<xs.length:=by rw[<-h.1];exact(um g)
 exact E.len (h.2 k _ c (fv b) g)
theorem be1{n:Nat}:∀{l:List bi} {k q:Nat} {c:bi},(∀c∈l,c=n)->l[k]?=c->q<n->l.flatten[k*n+q]?=c[q]?
 | [],_,_,_,_,h,_=>cj5
 |d::l,0,q,c,b,h,g=>cp2
 |d::l,k+1,q,c,b,h,g=>by have i:=b d rn;rw[as5,Ew (by rw[i,al9];omega),i,show(k+1)*n+q-n=k*n+q by rw[al9];omega];exact be1 (λc j=>b c (nO _ j)) ck0 g
theorem OC.mem(h:OC E P f xs css)(d:J∈css):∃x∈xs,E.F P f x J:=by
 let⟨k,b⟩:=ae3.1 d;have c:k<xs.length:=by rw[<-h.1];exact(um b)
 exact⟨_,at2 c,h.2 k _ J (fv c) b⟩
theorem OC.later(h:OC E P f xs css)(c:aV2 P f W):OC E P W xs css:=⟨h.1,λk x d A b=>E.later c (h.2 k x d A b)⟩
theorem OC.one(h:OC E P f xs css):∀u∈css.flatten,u.oneCell':=λu b=>by
 let⟨c,d,b⟩:=List.mem_flatten.1 b;let⟨x,_,g⟩:=h.mem d;exact E.one g u b
theorem OC.app{b:List bi}(h:OC E P f xs css)(c:OC E P f ys b):OC E P f (xs++ys) (css++b):=by
 refine⟨by simp[h.1,c.1],λk x d g i=>?_⟩;have:=h.1;have:=h.2 k x d;have:=c.2 (k-xs.length) x d;grind
theorem wS.Ur(h:ix E P f A xs)(b:aV2 P f W):ix E P W A xs:=by
 let⟨c,css,d,g⟩:=h;refine⟨c,css,d.later b,λi=>?_⟩;grind [aV2.cell]
theorem wS.later(h:ix E P f A xs)(b:kL f W):ix E P W A xs:=h.Ur b.ER
theorem wS.to2(h:ix E P u A xs)(d:aV2 P u f):wS E P u f A xs:=by
 let⟨b,css,c,g⟩:=h;refine⟨b,css,c,λi=>?_⟩;grind [aV2.cell]
theorem wS.mono{P':Nat->Prop}(h:ix E P f A xs)(j:0<E.n)(d:∀k,k<f.heap.size->P k->P' k):ix E P' f A xs:=by
 let⟨l,css,c,m⟩:=h;refine⟨l,css,⟨c.1,λk x o A b=>E.mono d (c.2 k x o A b)⟩,λg=>?_⟩;let⟨b,off,e,p,i⟩:=m g;exact⟨b,off,e,d b (ba0 f _ (i 0 _ (fv (by rw[c.len];exact Nat.mul_pos (pd g) j)))) p,i⟩
theorem wS.nil(A:am):ix E P f A []:=⟨by simp,[],⟨ii,λk x b h=>by simp at h⟩,λh=>aX ii h⟩
theorem wS.get(h:wS E P u f A xs){k:Nat}{x:α}(i:xs[k]?=x)(y:E.n=n:=by rfl)(z:0<n:=by decide):∃b off j,A=(b,off)/\E.F P u x j/\(∀W,kL f W->∀(q:Nat),q<n->W.cell? (b,off+k*n+q)=j[q]?)/\∀W,kL f W->W.cell? ⟨b,off+k*n,none⟩=j[0]?:=by
 let⟨_,css,l,p⟩:=h;let⟨b,off,e,_,r⟩:=p (List.ne_nil_of_mem (lf i));have s:k<css.length:=by rw[l.1];exact(um i)
 have g:=fv s;have m:=l.2 k x _ i g
 have:∀W,kL f W->∀q,q<E.n->W.cell? ⟨b,off+k*E.n+q,none⟩=css[k][q]?:=λW t q o=>by
  have d:q<css[k].length:=by rw[E.len m];exact o
  rw[fv d,aj2];exact t.cell (r _ _ ((be1 (λc g=>by let⟨x,_,m⟩:=l.mem g;exact E.len m) g o).trans (fv d)))
 grind
theorem Own.shape(h:Own E e P u w2 f v xs):∃A c,v=.slice A xs c:=by
 let⟨i,j,css,k,b⟩:=h;obtain⟨rfl,l⟩|⟨g,cap,d,rfl,_,m⟩:=b.2
 all_goals grind
theorem Own.le(h:Own E e P u w2 f (A,n,b) xs):n<=b:=by
 let⟨d,g,css,i,c⟩:=h;have:=c.2;grind
theorem Own.rd{A:am}(h:Own E e P u w2 f (A,n,b) xs)(hF:aV2 P u W)(d:∀k,w2.heap.size<=k->P k)(p:∀k,w2.heap.size<=k->k<f->W.heap[k]?=f.heap[k]?):ix E P W A xs:=by
 obtain⟨q,i,css,l,h2⟩:=h;refine⟨i,css,l.later hF,λr=>?_⟩;have c:=h2.2;rcases c with⟨_,c⟩|⟨g,cap,m,c,o,s⟩
 .grind
 cases c;refine⟨g,0,ii,d g o,λj v hj=>?_⟩;have t:=bN2;grind [Addr.add_lit,Go.World.cell?_of_block]
theorem Own.rd2{A:am}(h:Own E e P u w2 f (A,n,b) xs)(d:∀k,w2.heap.size<=k->P k):wS E P u f A xs:=by
 let⟨q,i,css,l,h2⟩:=h;refine⟨i,css,l,λr=>?_⟩;have c:=h2.2;obtain⟨_,c⟩|⟨g,cap,m,c,o,s⟩:=c
 .grind
 cases c;exact⟨g,0,ii,d g o,λj v hj=>by have p:=bN2;rwa[aj9]at p⟩
theorem Own.alloc{b:World}(h:Own E e P b w2 f v xs)(o:Obj):Own E e P b w2 (f.alloc o) v xs:=by
 let⟨c,d,css,g,i⟩:=h;exact⟨ah9 c o,d,css,g,i.alloc o⟩
theorem Own.drew{b:World}(h:Own E e P b w2 f v xs):Own E e P b w2 f.drew v xs:=⟨m8 h.1,h.2⟩
theorem Own.ofE(c:kL w2 W)(d:W.heap[b]?=some (.cells #[] e (0,0)))(g:w2<=b):Own E e P u w2 W (b,0,0) []:=
 ⟨c,sX,[],⟨ii,λk x i h=>cj5⟩,sX,.inr ⟨b,0,#[],ii,g,d,rx _,oX,sX,sX⟩⟩
theorem aS2{i j:Nat}{x y:Value}(h:b≠n):((W.setCell (b,i) x).setCell (b,j) y).heap[n]?=W.heap[n]?:=
 (fQ (dE h)).trans (fQ (dE h))
end
def XS(t e:TypeId)(n:Nat):Prop:=prog.underlying t=some (.slice e)/\((prog.info? e).bind λi=>i.zero.map λz=>(i.size,z.cells.size,decide (i.bytes<=200)))=(n,n,true)
theorem XS.out{t e:TypeId}(h:XS t e n):∃i z,prog.info? e=some i/\i.zero=some z/\i.size=n/\i.bytes<=200/\z.cells.size=n:=by
 have h:=h.2;simp[cI,aS3,lm]at h;grind
section
variable{α:Type}{E:nR α}{P:Nat->Prop}{wF w0:World}{xs ys:List α}{v:Value}{o:Oper}{a:Act}{K:Act->World->Prop}{Q:Exit->Act->World->Prop}{ops:Array Oper}{rest:List Oper}
section
variable(s x:Operand)(t e:TypeId)
include s x t e
theorem bs1(B:o.op=.call {callee:=.builtin .append,args:=#[s,x],argTypes:=#[t,t]})(T:XS t e E.n)(N:0<E.n)(C:a.eval s=v)(H:Own E e P wF w0 f v xs)(D:a.eval x=(A,ys.length,n)){css:List bi}(r:OC E P wF ys css)(O:ys≠[]->∃b off:Nat,A=(b,off)/\∀(j:Nat) v,css.flatten[j]?=some v->f.cell? (b,off+j)=v)(hl:xs+ys.length<=1000000)(h:∀p y,Own E e P wF w0 y p (xs++ys)->(∀(b:Nat) o,v.ownBlock≠b->f.heap[b]?=some o->y.heap[b]?=o)->K (a.put o.dst p) y):o.wp prog a f K Q:=by
 let⟨i,z,F,R,S,U,X⟩:=T.out;have G:=T.1;let⟨q,_,l,I,d⟩:=H;have Y:(xs++ys).length=xs.length+ys.length:=aU7;by_cases J:ys=[]
 .subst J;have L:∃b c m,v=.slice b c m/\c<=m:=by rcases d.2 with⟨rfl,_⟩|⟨g,cap,M,rfl,_,_,h,_⟩;all_goals grind
  obtain⟨b,c,m,rfl,Z⟩:=L;have ta:(Builtin.append_ #[t,t] o.type #[.slice b c m,(A,0,n)]).run prog f=.ok (.slice b c m) f:=by cases A<;>cases b<;>simp[Builtin.append_,aB6 G,sizeOf,typeInfo,F,Builtin.lenOf,Builtin.firstCells,loadCells,loadCellsFrom,Z,storeCells]
  unfold Oper.wp execOp;simp[B,resolve,invoke,builtin,ak2,aw7,ae8,at5,C,D,aj6,ta];exact h _ _ ⟨q,ct8,l,by simpa using I,by simpa using d⟩ λ_ _ _ h=>h
 obtain⟨b,off,rfl,Z⟩:=O J;have m:(xs.length+ys.length)*i.bytes<=140737488355328:=by have:=at0 hl U;omega
 refine wp_append_own f s x t B w0 e i z E.n i.bytes G F R S ii X N v xs l.flatten C d ⟨b,off,none⟩ ys n css.flatten D r.len (λj c hu=>by rw[aj9];exact Z j c hu) r.one cj7 m q.size λp w' a1 L _=>?_
 exact h p w' ⟨Below.grown q L q.size λk hk=>(d.lt k hk).1,oX,l++css,I.app r,by rw[Y,ax9];exact a1⟩ λb o m M=>(L.block b (dh M).1 λe=>m e.symm).trans M
theorem aX5(i:o.op=.call {callee:=.builtin .append,args:=#[s,x],argTypes:=#[t,t]})(T:XS t e E.n)(k:0<E.n)(l:a.eval s=v)(H:Own E e P wF w0 f v xs)(m:a.eval x=(A,z,n))(p:z=ys){w1:World}(c:wS E P wF w1 A ys)(hF:aV2 P w1 f)(q:xs+ys.length<=1000000)(h:∀g d,Own E e P wF w0 d g (xs++ys)->(∀b o,v.ownBlock≠some b->f.heap[b]?=some o->d.heap[b]?=o)->K (a.put o.dst g) d):o.wp prog a f K Q:=by
 subst p;let⟨_,r,y,c⟩:=c;exact bs1 s x t e i T k l H m y (λB=>by let⟨b,off,e,C,h⟩:=c B;exact⟨b,off,e,λj v D=>hF.cell C (h j v D)⟩) q h
theorem aY0(m:o.op=.call {callee:=.builtin .append,args:=#[s,x],argTypes:=#[t,t]})(T:XS t e E.n)(p:0<E.n)(q:a.eval s=v)(H:Own E e P wF w0 f v xs){t2:TypeId}{r:Nat×Nat}(A:a.eval x=(b,1,z))(B:f.heap[b]?=some (.cells us t2 r)){y:α}(C:E.F P wF y us.toList)(D:xs.length<1000000)(h:∀d c,Own E e P wF w0 c d (xs++[y])->(∀(b:Nat) o,v.ownBlock≠b->f.heap[b]?=some o->c.heap[b]?=o)->K (a.put o.dst d) c):o.wp prog a f K Q:=by
 refine bs1 (ys:=[y]) (css:=[us.toList]) s x t e m T p q H A ⟨ii,λk x G g i=>?_⟩ (λ_=>⟨_,_,ii,λj v l=>?_⟩) D h
 .cases k<;>simp at g i;subst g i;exact C
 rw[List.flatten_singleton,bH7]at l;rw[wl,cr B];exact l
end
theorem aX6{P:Program}{u:World}{E:Prop}(nX:o.guard=none)(h:Oper.wp P o a u K Q):if Region.wanted o (yielded ops a.tmps)=true then Oper.wp P o a u K Q else E:=by
 rw[aF cn1];exact h
theorem aA4{f:World}{o:Obj}:(f.alloc o).heap[f.heap.size]?=o:=ag7 f o
theorem aX4{f:World}{o p:Obj}:((f.alloc o).alloc p).heap[f.heap.size]?=o:=(gf (f.alloc o) p _ (by simp)).trans (ag7 f o)
theorem aW4{f:World}{o p:Obj}:((f.alloc o).alloc p).heap[f.heap.size+1]?=p:=by have:=ag7 (f.alloc o) p;simpa using this
end
variable{Pb:Nat->Prop}
def wX:nR Case:=⟨3,λ_ _ c a=>a=[B c.cF,c.ch,c.v],by rintro _ _ _ _ rfl;rfl,by rintro _ _ _ _ rfl;simp[Value.oneCell'],λ_ h=>h,λ_ h=>h⟩
abbrev OPL(o:cu)(x:Option Addr)(a:Nat):List Value:=[o.ai,o.ch,o.n,o.v,(x,o.cases.length,a),o.dG]
abbrev qG(o:cu)(x:Option Addr)(a:Nat):Value:=.agg #[o.ai,o.ch,o.n,o.v,(x,o.cases.length,a),o.dG]
def opE:nR cu:=⟨6,λPb w o c=>∃x a,c=OPL o x a/\ix wX Pb w x o.cases,by rintro _ _ _ _ ⟨_,_,rfl,_⟩;rfl,by rintro _ _ _ _ ⟨_,_,rfl,_⟩;simp[Value.oneCell'],by rintro _ _ _ _ _ h ⟨x,a,rfl,b⟩;exact⟨x,a,ii,b.Ur h⟩,by rintro _ _ _ _ _ h ⟨x,a,rfl,b⟩;exact⟨x,a,ii,b.mono (by decide) h⟩⟩
def wtE:nR V.Wt:=⟨7,λPb w u c=>∃x a,c=I u.g::OPL u.op x a/\ix wX Pb w x u.op.cases,by rintro _ _ _ _ ⟨_,_,rfl,_⟩;rfl,by rintro _ _ _ _ ⟨_,_,rfl,_⟩;simp[Value.oneCell'],by rintro _ _ _ _ _ h ⟨x,a,rfl,b⟩;exact⟨x,a,ii,b.Ur h⟩,by rintro _ _ _ _ _ h ⟨x,a,rfl,b⟩;exact⟨x,a,ii,b.mono (by decide) h⟩⟩
def X8:nR Int:=⟨1,λ_ _ z a=>a=[I z],by rintro _ _ _ _ rfl;rfl,by rintro _ _ _ _ rfl;simp[Value.oneCell'],λ_ h=>h,λ_ h=>h⟩
def chE:nR V.Ch:=⟨3,λPb w c g=>∃x a b,g=[I c.cap,(x,c.len,a),c.pP]/\b.length=c.len/\ix X8 Pb w x b/\c.cap<=1000/\c.len<=a,by rintro _ _ _ _ ⟨_,_,_,rfl,_⟩;rfl,by rintro _ _ _ _ ⟨_,_,_,rfl,_⟩;simp[Value.oneCell'],by rintro _ _ _ _ _ h ⟨x,a,b,rfl,d,e,f⟩;exact⟨x,a,b,ii,d,e.Ur h,f⟩,by rintro _ _ _ _ _ h ⟨x,a,b,rfl,d,e,f⟩;exact⟨x,a,b,ii,d,e.mono (by decide) h,f⟩⟩
def aU1(w:World)(P:Prop)(e:Ending)(a:World):Prop:=∃b:Bool,e=b/\(b=true↔P)/\kL w a
theorem bs5{P:Prop}(h:P)(l:kL u f):aU1 u P (Value.bool true) f:=⟨true,ii,by simp[h],l⟩
theorem bg5{P:Prop}(h:¬P)(l:kL u f):aU1 u P (Value.bool false) f:=⟨false,ii,by simp[h],l⟩
def bb0(w:World)(o:cu)(f:Int)(e:Ending)(b:World):Prop:=∃(c:Case) (a:Bool),e=Value.tuple #[.agg #[c.cF,c.ch,c.v],.bool a]/\V.Xq o f=(if a then some c else none)/\kL w b
theorem bo4(c:Case)(a:Bool)(h:V.Xq L Y=if a then some c else none)(l:kL u f):bb0 u L Y (Value.tuple #[.agg #[c.cF,c.ch,c.v],.bool a]) f:=⟨c,a,ii,h,l⟩
theorem aR3(o:cu)(f:Int)(w:World)(e:am)(k:Nat)(H:ix wX Pb w e o.cases):gt 13 #[qG o e k,f] w (bb0 w o f):=by
 have l:=H.1;obtain⟨n,d⟩:=bN3;rw[<-d]at l;rw[qG,<-d];have a:(∃(j:Nat) (c:Case),f=j/\j<n/\o.cases[j]?=some c)\/¬(0<=f/\f<n)/\idx o.cases f=none:=by grind [idx]
 have g:Hid (∀(j:Nat) c,o.cases[j]?=some c->idx o.cases j=some c):=λj c h=>by simp[idx,h]
 clear d;obtain⟨j,c,rfl,p,a⟩|⟨q,a⟩:=a
 case' inl=>obtain⟨b,off,r,rfl,rfl,R,s⟩:=H.get (n:=3) a;have:¬(j:Int)= -1:=oX;have HC:=ag (g.out j c a)
 case' inr=>have HC:=ag a
 all_goals
  clear g a H;go_enter func13,ntmps13;go_upto_region 1 with fail
  generalize i:World.alloc (World.alloc w _) _=t;obtain⟨L,S,⟨u,_⟩,⟨x,y⟩,m⟩:=aa0 i;clear i;go_wp2
 all_goals
  refine aV4 ii ii (aJ1 m _ _ _) bA2 ?_;try simp only[beq_iff_eq,beq_eq_false_iff_ne]at*
  first
   |exact bo4 ⟨true,o.ch,o.v⟩ true cu3 ct1
   |exact bo4 ⟨false,o.ch,0⟩ true cu3 ct1
   |exact bo4 c true cu3 ct1
   |exact bo4 ⟨false,0,0⟩ false cu3 ct1
theorem none_lt{a:List V.Wt}{P:V.Wt->Prop}(h:∀k u,k<b->a[k]?=some u->¬P u){u:V.Wt}(c:a[b]?=u)(d:¬P u):∀k u,k<b+1->a[k]?=some u->¬P u:=λk v e f=>by
 grind
theorem be9(a:List V.Wt)(g:Int)(o:Value)(d:am)(wc:Nat)(w:World)(H:ix wtE Pb w d a):gt 211 #[.agg #[o,(d,a.length,wc)],g] w (aU1 w (∃u∈a,u.g=g)):=by
 have p:=H.1;let⟨n,f⟩:=dC (a.length);rw[<-f]at p ⊢;let⟨HN,HH⟩:=dA f H;go_enter func211,ntmps211;go_wp2;go_loopw [10] (λi wr=>∃j:Nat,j<=n/\i=.int .i64 j/\kL w wr/\Hid (∀(k:Nat) u,k<j->a[k]?=some u->¬u.g=g)) (λi _=>n-(intOf i).toNat)
 case atStart=>exact⟨0,wn _,ii,sX,λ_ _ h=>oX⟩
 obtain⟨j,q,rfl,c,l⟩:=hrel;by_cases dD:j<n
 .let⟨u,hu⟩:∃u,a[j]?=some u:=⟨_,fv cn4⟩;obtain⟨b,off,r,rfl,⟨x,s,rfl,t⟩,R,v⟩:=bN4;have m:=ag hu;go_wp2
  .go_ret;exact bs5 ⟨u,lf m,by simp_all⟩ (by simp[c])
  refine⟨⟨j+1,oX,cj8,by simp[c],none_lt l m (by simp_all)⟩,cj2⟩
 go_wp2;go_ret;exact bg5 (λ⟨u,hu,e⟩=>by let⟨k,m⟩:=ae3.1 hu;exact l k u (by have:=um m;have:=HN.out;omega) m e) c
variable{Pb:Nat->Prop}
theorem bi0{d:Case}(h:V.Xq L Y=d):Y= -1\/0<=Y/\Y<L.cases:=by
 unfold V.Xq at h;split at h
 .omega
 split at h
 .omega
 split at h
 .exact .inr (V.bb2 h)
 cases h
def by4(u:V.Wt)(g:Int)(s:Case)(i:Int):Prop:=∃d,V.Xq u.op i=some d/\u.g≠g/\d.ch=s.ch/\d.cF≠s.cF
theorem bm4(M:V.q9)(g:Int)(s:Case)(Q:Value)(q:am)(wc:Nat)(w:World)(H:ix wtE Pb w q M.ws):gt 190 #[.agg #[Q,(q,M.ws.length,wc)],g,.agg #[s.cF,s.ch,s.v]] w (aU1 w (V.Oth M g s)):=by
 let⟨P,r⟩:=dC (V.Oth M g s);have l:Hid (P↔∃u∈M.ws,∃i,by4 u g s i):=by rw[r];exact ak1
 rw[<-r];have t:=H.1;let⟨m,a⟩:=dC (M.ws);rw[<-a]at H l t ⊢;let⟨n,o⟩:=dC (m.length);rw[<-o]at t ⊢;let⟨HN,HH⟩:=dA o H;clear o H a;go_enter func190,ntmps190;go_upto_region 1 with fail
 generalize hW:World.alloc (World.alloc w _) _=T;let⟨L,S,⟨K1,_⟩,⟨K2,_⟩,_⟩:=aa0 hW;go_wp2;go_loopw [15] (λi wr=>∃j:Nat,j<=n/\i=.int .i64 j/\kL T wr/\Hid (∀(k:Nat) u,k<j->m[k]?=some u->¬∃i,by4 u g s i)) (λi _=>n-(intOf i).toNat)
 case atStart=>exact⟨0,wn _,ii,sX,λ_ _ h=>oX⟩
 obtain⟨j,hj,rfl,hb,A⟩:=hrel;have U:=L.trans hb;by_cases dD:j<n
 .let⟨u,hu⟩:∃u,m[j]?=some u:=⟨_,fv cn4⟩;obtain⟨b,off,cs,rfl,⟨x,B,rfl,f⟩,R,R0⟩:=bN4;let⟨C,X⟩:=dA hu f;have:=f.1;clear f hu;go_upto_region 4 with fail
  generalize hW:World.alloc wr _=D;obtain⟨L2,S2,⟨K3,_⟩,_⟩:=bN5;have E:=bN6;clear hW;go_wp2;go_loopw [9] (λi Y=>∃z:Int,-1<=z/\z<=u.op.cases.length/\i=.int .i64 z/\kL D Y/\Hid (∀y,y<z->¬by4 u g s y)) (λi _=>(u.op.cases.length-intOf i).toNat)
  case atStart=>exact⟨-1,oX,oX,ii,sX,λy F ⟨d,h,_⟩=>by have:=bi0 h;omega⟩
  obtain⟨z,jC,gG,rfl,p,G⟩:=hrel;have c:=E.trans p;have Z:Hid (∀W,kL D W->gt 13 #[qG u.op x B,I z] W (bb0 W u.op z)):=λW hW=>aR3 u.op z W x B (X.out.later ((L.trans E).trans hW))
  rcases cM:u.g !=g with _|_
  all_goals
   go_wp2_with (go_at_call 13;refine(Z _ (by simp[p])).mono ?_;rintro e w3 ⟨d,ok,rfl,J,K⟩;have q3:=p.trans K;have q2:=c.trans K;have N:=ag J;clear J)
  all_goals first
   |(go_ret;exact bs5 (l.out.2 ⟨u,lf C,z,d,by simp_all [N.out]⟩) (by simp[L.trans q2]))
   |exact⟨⟨j+1,oX,cj8,c,none_lt A C λ⟨i,O⟩=>G i (by let⟨d,h,_⟩:=O;have:=bi0 h;omega) O⟩,cj2⟩
   |(refine⟨⟨z+1,oX,oX,cj8,by simp[q3],λy F O=>?_⟩,cj2⟩
     rcases Int.lt_or_eq_of_le (Int.le_of_lt_add_one F)with h|rfl
     .exact G y h O
     let⟨d',h1,f,h3,h4⟩:=O
     have:=N.out
     simp_all)
 go_wp2;go_ret;exact bg5 (λh=>by let⟨u,hu,e⟩:=l.out.1 h;let⟨k,c⟩:=ae3.1 hu;exact A k u (by have:=um c;have:=HN.out;omega) c e) U
def Fa(Pb:Nat->Prop)(w:World)(a b:am)(M:V.q9):Prop:=ix chE Pb w a M.MP/\ix wtE Pb w b M.ws
theorem Fa.Ur{w W:World}{a b:am}{M:V.q9}(h:Fa Pb w a b M)(c:aV2 Pb w W):Fa Pb W a b M:=⟨h.1.Ur c,h.2.Ur c⟩
theorem Fa.later{a:am}{M:V.q9}(h:Fa Pb u A a M)(b:kL u f):Fa Pb f A a M:=h.Ur b.ER
theorem Fa.mono{P':Nat->Prop}{w:World}{a b:am}{M:V.q9}(h:Fa Pb w a b M)(c:∀k,k<w.heap.size->Pb k->P' k):Fa P' w a b M:=⟨h.1.mono (by decide) c,h.2.mono (by decide) c⟩
theorem bi1(M:V.q9)(a:Int):(∃(k:Nat) (c:V.Ch),a=k+1/\k<M.MP/\M.MP[k]?=c/\idx M.MP (a-1)=c)\/(a<1\/(M.MP:Int)<a)/\idx M.MP (a-1)=none:=by
 by_cases h:a<1\/(M.MP.length:Int)<a
 .refine .inr ⟨h,?_⟩;unfold idx;split
  .exact rq oX
  rfl
 have b:(a-1).toNat<M.MP.length:=oX
 exact .inl ⟨(a-1).toNat,_,oX,b,fv b,by unfold idx;rw[aF oX,fv b]⟩
theorem gJ(a:Int)(b:am)(c:Nat){v:Value}(d:n<=1000000)(w:World):gt 186 #[.agg #[(b,n,c),v],a] w (aU1 w (1<=a/\a<=n)):=by
 go_enter func186,ntmps186;go_wp2
 all_goals
  go_ret
  first
   |exact⟨decide (a<=n),ii,cj4,sX⟩
   |exact bg5 oX sX
theorem bs6(M:V.q9)(g i:Int)(o:cu)(p q x:am)(z wc D:Nat)(w:World)(A:Fa Pb w p q M)(O:ix wX Pb w x o.cases):gt 129 #[.agg #[(p,M.MP.length,z),(q,M.ws.length,wc)],g,qG o x D,i] w (aU1 w (∃s,V.Xq o i=some s/\V.May M g s)):=by
 let⟨P,m⟩:=dC (∃s,V.Xq o i=some s/\V.May M g s);have hl:=A.1.1;have E:Hid (∀W,kL w W->gt 13 #[qG o x D,I i] W (bb0 W o i)):=λW j=>aR3 o i W x D (O.later j)
 have F:Hid (∀s W,kL w W->gt 190 #[.agg #[(p,M.MP.length,z),(q,M.ws.length,wc)],I g,.agg #[B s.cF,I s.ch,I s.v]] W (aU1 W (V.Oth M g s))):=λs W j=>bm4 M g s _ q wc W (A.2.later j)
 rw[<-m];have Q:Hid (∀t W,gt 186 #[.agg #[(p,M.MP.length,z),(q,M.ws.length,wc)],I t] W (aU1 W (1<=t/\t<=M.MP.length))):=λt W=>gJ t p z hl W
 let⟨G,a⟩:=dC (V.Xq o i);rw[<-a]at m;have H:=ag a;clear a O
 have J:G=none/\¬P\/∃s,G=some s/\((∃(k:Nat) (c:V.Ch),s.ch=k+1/\k<M.MP.length/\M.MP[k]?=c/\(P↔c.pP=true\/c.cap=0/\V.Oth M g s\/s.cF=true/\c.len<c.cap\/s.cF=false/\0<c.len))\/¬(1<=s.ch/\s.ch<=M.MP.length)/\¬P):=by
  cases G with
  |none=>exact .inl ⟨ii,by rw[m];rintro⟨_,h,_⟩;cases h⟩
  |some s=>
   refine .inr ⟨s,ii,?_⟩;obtain⟨k,c,u,hk,J,f⟩|⟨C,f⟩:=bi1 M s.ch
   .refine .inl ⟨k,c,u,hk,J,?_⟩;rw[m];constructor
    .rintro⟨_,h,K,l,y⟩;cases h;rw[f]at l;cases l;exact y
    exact λh=>⟨s,ii,c,f,h⟩
   exact .inr ⟨oX,by rw[m];rintro⟨_,h,c,l,_⟩;cases h;rw[f]at l;cases l⟩
 clear m;obtain⟨rfl,C⟩|⟨s,rfl,⟨k,c,T,hk,U,C⟩|⟨hk,C⟩⟩:=J
 case' inr.inl=>obtain⟨b,off,cs,rfl,⟨bx,bc,zs,rfl,X,Y,_⟩,R,R0⟩:=A.1.get (n:=3) U;have pJ:=Y.1;have:IntKind.i64.wrap ((k:Int)+1-1)=k:=cx7;have:decide (M.MP.length<=k)=false:=cn9;have l:=(λW j=>F s W j);rw[T]at l;have K:=ag l;clear l;rw[X]at pJ;clear X Y U
 all_goals
  have N:=ag C;clear A C;go_enter func129,ntmps129;go_upto_region 1 with fail
  generalize j:World.alloc (World.alloc w _) _=W1;let⟨L,S,⟨K1,_⟩,⟨K2,_⟩,_⟩:=aa0 j;clear j
 .go_wp2_with (first|(go_at_call 13;refine(E _ ct1).mono ?_;rintro e Z ⟨d,f,rfl,a,l3⟩;rw[<-H.out]at a;obtain⟨rfl,rfl⟩:f=true/\s=d:=(by cases f;cases a;cases a;exact⟨ii,ii⟩);rw[T];have u:=bN7;clear a)|(go_at_call 186;refine(Q _ _).mono ?_;rintro e w4 ⟨f,rfl,a,y⟩;obtain rfl:f=true:=a.2 oX;let⟨l5,K5,_⟩:=bj3 y;have l1:=u.trans l5;have l2:=l3.trans l5;clear a)|(go_at_call 190;refine(K _ (by simp[l1])).mono ?_;rintro e w5 ⟨r,rfl,a,l6⟩;let⟨l8,K6,_⟩:=bj3 l6;have:=l1.trans l8;have Kc:=ag a;clear a))
  all_goals
   go_ret;have:=N.out;try have:=Kc.out
   refine⟨_,ii,?_,cj4⟩;simp_all
 .go_wp2_with (go_at_call 13;refine(E _ ct1).mono ?_;rintro e Z ⟨d,f,rfl,a,l3⟩;rw[<-H.out]at a;obtain rfl:f=false:=(by cases f;rfl;cases a);have u:=bN7;clear a);go_ret;exact bg5 N (by simp[u])
 go_wp2_with (first|(go_at_call 13;refine(E _ ct1).mono ?_;rintro e Z ⟨d,f,rfl,a,l3⟩;rw[<-H.out]at a;obtain⟨rfl,rfl⟩:f=true/\s=d:=(by cases f;cases a;cases a;exact⟨ii,ii⟩);have u:=bN7;clear a)|(go_at_call 186;refine(Q _ _).mono ?_;rintro e w4 ⟨f,rfl,a,y⟩;obtain rfl:f=false:=(by cases f;rfl;exact aX (a.1 ii) (ag hk));have y:=kL.trans (w:=w) (ah9 u _) y;clear a));go_ret;exact bg5 N y
variable{Pb:Nat->Prop}
theorem bA3{P:Int->Prop}(h:∀y,y<Y->¬P y)(a:¬P Y)(y:Int)(b:y<Y+1):¬P y:=by
 grind
theorem bf0(M:V.q9)(g:Int)(o:cu)(a c x:am)(f wc j:Nat)(w:World)(A:Fa Pb w a c M)(n:ix wX Pb w x o.cases):gt 70 #[.agg #[(a,M.MP.length,f),(c,M.ws.length,wc)],g,qG o x j] w (aU1 w (V.aZ6 M g o)):=by
 let⟨P,k⟩:∃P:Int->Prop,P=λi=>∃s,V.Xq o i=some s/\V.May M g s:=⟨_,ii⟩
 have p:Hid (∀i,i< -1\/(o.cases.length:Int)<=i/\i≠ -1->¬P i):=λi l=>by rw[k];rintro⟨s,h,_⟩;have:=bi0 h;omega
 have q:Hid (V.aZ6 M g o↔∃i,P i):=by rw[k];exact ak1
 have B:Hid (∀i W,kL w W->gt 129 #[.agg #[(a,M.MP.length,f),(c,M.ws.length,wc)],I g,qG o x j,I i] W (aU1 W (P i))):=λi W d=>by rw[k];exact bs6 M g i o a c x f wc j W (A.later d) (n.later d)
 have:=n.1;go_enter func70,ntmps70;go_upto_region 1 with fail
 generalize d:World.alloc (World.alloc w _) _=C;let⟨L,S,⟨H,_⟩,⟨J,_⟩,_⟩:=aa0 d;go_wp2;go_loopw [7] (λi D=>∃z:Int,-1<=z/\z<=o.cases.length/\i=.int .i64 z/\kL C D/\Hid (∀y,y<z->¬P y)) (λi _=>(o.cases.length-intOf i).toNat)
 case atStart=>exact⟨-1,oX,oX,ii,sX,λy m=>p y (.inl m)⟩
 obtain⟨z,K,N,rfl,r,t⟩:=hrel;have m:=L.trans r;go_wp2_with (go_at_call 129;refine(B _ _ (by simp[m])).mono ?_;rintro e O ⟨b,rfl,E,u⟩;have F:=r.trans u;have G:=m.trans u;have v:=ag E)
 all_goals first
  |(go_ret;exact bs5 (q.out.2 ⟨z,v.out.1 uX⟩) G)
  |(go_ret;exact bg5 (λh=>by let⟨i,l⟩:=q.out.1 h;exact t i (Int.not_le.1 λh=>p i oX l) l) m)
  |exact⟨⟨z+1,oX,oX,cj8,F,bA3 t λh=>by have:=v.out.2 h;simp_all⟩,cj2⟩
theorem bm5:XS 127 236 7:=⟨by kernel_rfl,by kernel_rfl⟩
theorem bm6:XS 126 219 3:=⟨by kernel_rfl,by kernel_rfl⟩
theorem bs7{w:World}{c1 c3:dl}{t1 t2 t3:TypeId}(h:((w.alloc (c1,t1)).alloc (c2,t2)).alloc (c3,t3)=u):∃d,kL w d/\d=w.heap.size+1+1/\u=w.heap.size+3/\kL d u/\qf d w c1/\qf d (w+1) c2/\qf u (w+1+1) c3/\Hid (u.heap[w.heap.size+1+1]?=some (.cells c3 t3 (0,0))):=by
 obtain⟨l,s,a,b,_⟩:=bN1;let⟨_,e,_,_,c,f⟩:=bs0 h;subst h;exact⟨_,l,s,e,sX,a,b,c,f⟩
def Kept(Pb:Nat->Prop)(b w a W:World):Prop:=aV2 Pb b W/\∀k,w.heap.size<=k->k<a->W.heap[k]?=a.heap[k]?
theorem Kept.refl(h:aV2 Pb u w'):Kept Pb u f w' w':=⟨h,λ_ _ _=>rfl⟩
def PMd(Pb:Nat->Prop)(f w:World)(R:V.q9->Prop)(e:Ending)(a:World):Prop:=∃b g c wc M d,e=Value.tuple #[.agg #[.slice b (V.q9.MP M).length g,.slice c M.ws wc],.bool d]/\(∀W,Kept Pb f w a W->Fa Pb W b c M)/\(d->R M)/\kL w a
theorem N1(M:V.q9)(g:Int)(o:cu)(f l x:am)(n j cx:Nat)(s w:World)(C:Fa Pb s f l M)(HO:ix wX Pb s x o.cases)(hF:aV2 Pb s w)(Z:∀k,w.heap.size<=k->Pb k)(hw:M.ws.length<1000000):gt 183 #[.agg #[(f,M.MP.length,n),(l,M.ws.length,j)],g,qG o x cx] w (PMd Pb s w λO=>O=⟨M.MP,M.ws++[⟨g,o⟩]⟩/\¬(∃u∈M.ws,u.g=g)/\¬V.aZ6 M g o):=by
 let⟨R,Q⟩:∃R:V.q9->Prop,R=λO=>O=⟨M.MP,M.ws++[⟨g,o⟩]⟩/\¬(∃u∈M.ws,u.g=g)/\¬V.aZ6 M g o:=⟨_,ii⟩
 have HR:Hid (¬(∃u∈M.ws,u.g=g)->¬V.aZ6 M g o->R ⟨M.MP,M.ws++[⟨g,o⟩]⟩):=λa b=>by rw[Q];exact⟨ii,a,b⟩
 rw[<-Q];have HS:Hid (∀i W v,v=qG o x cx->kL w W->gt 13 #[v,I i] W (bb0 W o i)):=λi W v hv hW=>cx3
 have MF:Hid (∀D W,gt 186 #[.agg #[(f,M.MP.length,n),.slice l M.ws j],I D] W (aU1 W (1<=D/\D<=M.MP.length))):=λD W=>gJ D f n C.1.1 W
 have S:Hid (∀W,kL w W->gt 211 #[.agg #[(f,M.MP.length,n),.slice l M.ws j],I g] W (aU1 W (∃u∈M.ws,u.g=g))):=λW hW=>be9 M.ws g _ l j W (C.2.Ur (hF.trans hW))
 have HA:Hid (∀W v,v=qG o x cx->kL w W->gt 70 #[.agg #[(f,M.MP.length,n),.slice l M.ws j],I g,v] W (aU1 W (V.aZ6 M g o))):=λW v hv hW=>by rw[hv];exact bf0 M g o f l x n j cx W (C.Ur (hF.trans hW)) (HO.Ur (hF.trans hW))
 have hl:=HO.1;let⟨T,Yf,HP⟩:=ij C HO Z;clear Q C HO Z;go_enter func183,ntmps183;go_upto_region 1 with fail
 generalize hW:World.alloc (World.alloc (World.alloc w _) _) _=W1;let⟨W0,L0,S0,S1,U,⟨K1,_⟩,⟨K2,_⟩,⟨K3,F3⟩,HX⟩:=bs7 hW;have L:=L0.trans U;clear hW;go_wp2;go_loopw [8,9] (λm i j=>∃(z:Int) (mb:Bool),-1<=z/\z<=o.cases.length/\i=.int .i64 z/\m=.bool mb/\kL W1 j) (λ_ i _=>(o.cases.length-intOf i).toNat)
 case atStart=>exact⟨-1,false,oX,oX,ii,ii,sX⟩
 obtain⟨z,mb,jC,gG,rfl,rfl,c⟩:=hrel;have A:=L.trans c;have B:=U.trans c;by_cases dD:z<o.cases.length
 .go_wp2_with (first
   |(go_at_call 13;refine(HS _ _ _ cj4 (by simp[A])).mono ?_;rintro e w3 ⟨d,F,rfl,_,p⟩;have H:=c.trans p;have X:=B.trans p;have J:=A.trans p)
   |(go_at_call 186;refine(MF _ _).mono ?_;rintro e w4 ⟨r,rfl,_,q⟩;let⟨q,_⟩:=bj3 q;have H:=H.trans q;have X:=X.trans q;have J:=J.trans q))
  all_goals(with_reducible refine dO ⟨z+1,_,oX,oX,cj8,ii,cj4⟩ cj2)
 go_upto_region 7 with fail
 go_cut [8,66]from 12 (λ_ t wx=>∃K:Bool,t=.bool K/\kL W1 wx/\Hid (K=false->¬(∃u∈M.ws,u.g=g)/\¬V.aZ6 M g o))
 case first=>
  go_wp2_with (first
   |(go_at_call 211;refine(S _ (by simp[A])).mono ?_;rintro e w3 ⟨b,rfl,F,p⟩;have H:=c.trans p;have X:=B.trans p;have J:=A.trans p;have N:=ag F;clear F)
   |(go_at_call 70;refine(HA _ _ cj4 (by simp[J])).mono ?_;rintro e w4 ⟨Y,rfl,F,q⟩;have q5:=H.trans q;have G:=ag F;clear F))
  all_goals
   go_meet;exact⟨_,ii,uX,by first|(intro h;cases h;done)|(intro h;have h1:=N.out;have h2:=G.out;simp_all)⟩
 obtain⟨K,rfl,c,N⟩:=hcut;have A:=L.trans c;have B:=U.trans c
 cases K with
 |true=>
  go_wp2;refine aV4 ii ii (aw1 (kL.heap c HX) _ _) aR1 ?_;exact⟨f,n,l,j,M,false,ii,λW h=>T.out.Ur h.1,λh=>ck3,cj4⟩
 |false=>
  go_upto_region 9 with fail
  go_region_held3 (λW=>kL W0 W) (repeat(first|with_reducible exact B|with_reducible exact z6|with_reducible exact z5|with_reducible refine m8 ?_|with_reducible refine ah9 ?_ _|with_reducible refine Gv ?_ (by rw[S0];exact rx _) _)) (first
   |(refine aX6 ii (aX5 (E:=wtE) (P:=Pb) (wF:=s) (w0:=wc) (xs:=[]) (ys:=M.ws) (.tmp 70) (.tmp 72) 127 236 rfl bm5 dX ii (by refine Own.ofE sX ?_ sX;first|exact aA4|exact aX4|exact aW4) ii ii (T.out.2) (hF.trans (by simp[A])) ci8 ?_);intro v1 W5 H5 k5;obtain⟨a1,c1,rfl⟩:=bN8;have z5:=B.trans H5.1;let⟨Yh,F⟩:=dA H5 k5;clear H5 k5)
   |(refine aX6 ii (aY0 (E:=wtE) (P:=Pb) (wF:=s) (w0:=wc) (xs:=M.ws) (y:=⟨g,o⟩) (.tmp 73) (.tmp 77) 127 236 rfl bm5 dX ii (by first|exact Yh.out.alloc _|exact Yh) ii (by first|exact aA4|(refine F _ _ ?_ (aX4);intro e;have:=mx e;dsimp at this;omega)|(refine F _ _ ?_ (aW4);intro e;have:=mx e;dsimp at this;omega)) (⟨x,cx,ii,Yf⟩) hw ?_);intro v2 W6 G _;obtain⟨a2,c2,rfl⟩:=G.shape;have l6:=c.trans G.1;have z6:=B.trans G.1;have SD:=ag G;clear G))
  all_goals
   go_wp2;refine aV4 ii ii (aw1 (kL.heap l6 HX) _ _) aR1 ?_;have Y:=L.trans l6;have hb:w.heap.size+1+1<wc.heap.size/\w.heap.size<=wc.heap.size:=(by have:=c.size;omega);exact⟨f,n,a2,c2,⟨M.MP,M.ws++[⟨g,o⟩]⟩,true,sX,λW h=>⟨T.out.1.Ur h.1,SD.out.rd h.1 (λk hk=>HP k oX) λk hk jO=>(h.2 k oX (by simpa using jO)).trans (aS2 oX)⟩,λ_=>HR (N sX).1 (N sX).2,by simp[Y]⟩
variable{Pb:Nat->Prop}
theorem bp3(o p:cu)(x y:am)(C D:Nat)(w:World)(f:ix wX Pb w x o.cases)(g:ix wX Pb w y p.cases):gt 219 #[qG o x C,qG p y D] w λe E=>∃b:Bool,e=b/\kL w E:=by
 have:=f.1;have F:=g.1;let⟨k,l⟩:=dA f g;clear f g;go_enter func219,ntmps219;go_upto_region 1 with fail
 generalize r:World.alloc (World.alloc w _) _=m;let⟨L,S,⟨M,_⟩,⟨N,_⟩,_⟩:=aa0 r;clear r;go_cut [47]from 6 (λt G=>∃b:Bool,t=.bool b/\kL m G/\(b=false->o.cases.length=p.cases.length))
 case first=>
  go_wp2
  all_goals
   go_meet;exact⟨_,ii,kb _,by simp;try omega⟩
 obtain⟨b,rfl,s,a⟩:=hcut;have H:=L.trans s
 cases b with
 |true=>
  clear a;go_wp2;go_ret;exact⟨_,ii,H⟩
 |false=>
  replace a:=a ii;rw[<-a]at F;have u:=ag a;clear a;go_wp2;go_loopw [5,51] (λ_ i wr=>∃j:Nat,j<=o.cases.length/\i=.int .i64 j/\kL m wr) (λ_ i _=>o.cases.length-(intOf i).toNat)
  case atStart=>exact⟨0,wn _,ii,s⟩
  obtain⟨j,O,rfl,a⟩:=hrel;have z:=L.trans a;by_cases q:j<o.cases.length
  .let⟨c,A⟩:∃c,o.cases[j]?=some c:=⟨_,fv q⟩;let⟨d,B⟩:∃c,p.cases[j]?=some c:=⟨_,fv (by rw[<-u.out];exact q)⟩;obtain⟨Q,R,I,rfl,rfl,T,J⟩:=k.out.get (n:=3) A;obtain⟨U,X,I,rfl,rfl,Y,K⟩:=l.out.get (n:=3) B;clear A B;have:j<p.cases.length:=by rw[<-u.out];exact q
   go_upto_region 6 with fail
   rcases Z:c.cF==d.cF with _|_<;>rcases e2:c.ch==d.ch with _|_<;>rcases e3:c.v==d.v with _|_
   all_goals
    go_region_held3 (λW=>kL w W/\kL m W) (exact⟨m8 z,m8 a⟩) (first|fail);go_wp2
   all_goals first
    |(with_reducible refine idb ?_;go_ret;exact⟨_,ii,cj4⟩)
    |exact⟨⟨j+1,oX,cj8,cj4⟩,cj2⟩
    |trace_state
  go_wp2;go_ret;exact⟨_,ii,z⟩
variable{Pb:Nat->Prop}
theorem bd4(a:List V.Wt)(g:Int)(o:cu)(q:Value)(l x:am)(r f:Nat)(w:World)(H:ix wtE Pb w l a)(s:ix wX Pb w x o.cases):gt 213 #[.agg #[q,(l,a.length,r)],g,qG o x f] w λe k=>∃b:Bool,e=b/\kL w k:=by
 have:=H.1;let⟨HH,t⟩:=dA H s;go_enter func213,ntmps213;go_upto_region 1 with fail
 generalize c:World.alloc (World.alloc w _) _=z;let⟨L,S,⟨K,_⟩,⟨M,_⟩,_⟩:=aa0 c;go_wp2;go_loopw [12] (λi wr=>∃j:Nat,j<=a.length/\i=.int .i64 j/\kL z wr) (λi _=>a.length-(intOf i).toNat)
 case atStart=>exact⟨0,wn _,ii,sX⟩
 obtain⟨j,N,rfl,m⟩:=hrel;have A:=L.trans m;by_cases C:j<a.length
 .let⟨u,hu⟩:∃u,a[j]?=some u:=⟨_,fv C⟩;obtain⟨b,off,O,rfl,⟨y,p,rfl,D⟩,R,Q⟩:=bN4;have E:Hid (∀W v,v=qG u.op y p->kL w W->gt 219 #[v,qG o x f] W λe k=>∃b:Bool,e=B b/\kL W k):=λW v F c=>by rw[F];exact bp3 u.op o y x p f W (D.later c) (t.out.later c)
  go_wp2_with (go_at_call 219;refine(E _ _ cj4 cj4).mono ?_;rintro e T ⟨d,rfl,G⟩;let⟨I,_⟩:=bj3 G;have J:=m.trans I)
  all_goals first
   |(with_reducible refine idb ?_;go_ret;exact⟨_,ii,L.trans J⟩)
   |exact⟨⟨j+1,oX,cj8,cj4⟩,cj2⟩
 go_wp2;go_ret;exact⟨_,ii,A⟩
theorem bs8{a:List V.Wt}{u:V.Wt}(h:a[b]?=u)(g:Int):V.out g (a.take (b+1))=if u.g=g then V.out g (a.take b)else V.out g (a.take b)++[u]:=by
 rw[as4,h];simp[V.out,ay4,List.filter_append,List.filter_cons,List.filter_nil];grind
theorem bw1(g:Int)(a:List V.Wt)(j:Nat):(V.out g (a.take j)).length<=j:=jm (ar9 _ _) (by rw[tC];omega)
theorem aY1(d:List V.Wt)(g:Int)(o:am)(s:Nat)(k w:World)(H:wS wtE Pb k w o d):gt 214 #[(o,d.length,s),g] w λe f=>∃a c,e=.returned (a,(V.out g d).length,c)/\Own wtE 236 Pb k w f (.slice a (V.out g d).length c) (V.out g d):=by
 have:=H.1;have HH:=ag H;let⟨Q,p⟩:∃Q:Ending->World->Prop,Q=λe f=>∃a c,e=.returned (.slice a (V.out g d).length c)/\Own wtE 236 Pb k w f (.slice a (V.out g d).length c) (V.out g d):=⟨_,ii⟩
 have t:Hid (∀a c f,Own wtE 236 Pb k w f (.slice a (V.out g d).length c) (V.out g d)->Q (Value.slice a (V.out g d).length c) f):=λa c f h=>by rw[p];exact⟨a,c,ii,h⟩
 rw[<-p];go_enter func214,ntmps214;go_wp2;go_loopw [5,11] (λv i wr=>∃(j:Nat) (a:am) (c m:Nat),j<=d.length/\i=.int .i64 j/\v=.slice a m c/\kL w wr/\Hid (m=(V.out g (d.take j)).length/\Own wtE 236 Pb k w wr v (V.out g (d.take j)))) (λ_ i _=>d.length-(intOf i).toNat)
 case atStart=>exact⟨0,_,_,_,wn _,ii,ii,sX,ii,Own.ofE sX (aA4) cG⟩
 obtain⟨j,a,c,m,G,rfl,rfl,I,l⟩:=hrel;by_cases x:j<d.length
 .let⟨u,hu⟩:∃u,d[j]?=some u:=⟨_,fv x⟩;have q:=ag (bs8 hu g);obtain⟨b,off,J,rfl,⟨y,z,rfl,A⟩,R,L⟩:=bN4;have B:=ag A;rcases r:u.g !=g with _|_
  .go_wp2;exact⟨⟨j+1,_,_,_,oX,cj8,ii,cj4,by rw[q.out,aF (by simpa using r)];exact⟨l.out.1,l.out.2.alloc _⟩⟩,cj2⟩
  go_wp2_with (refine ae2 ii λK C=>aY0 (E:=wtE) (P:=Pb) (wF:=k) (w0:=w) (xs:=V.out g (d.take j)) (y:=u) (.tmp 19) (.tmp 21) 127 236 rfl bm5 dX ii ((l.out.2.alloc _).alloc _) ii (aW4) (⟨y,z,ii,B⟩) (by have:=(ag (bw1 g d j)).out;omega) λM N H5 O=>C _ _ ?_;obtain⟨S,c1,rfl⟩:=bN8;have D:=H5.1;have F:=ag H5);exact⟨⟨j+1,_,_,_,oX,cj8,ii,D,by rw[q.out,aE (by simpa using r)];exact⟨sX,by simpa using F.out⟩⟩,cj2⟩
 go_wp2;let⟨q,h⟩:=l.out;rw[yl oX]at q h;subst q;exact t _ _ _ h
theorem bj5{a:World}{g:Nat}(c:a<=g):∀(b:bi) (o:Nat) {w:World},kL a w->kL a (w.setCells g o b)
 | [],_,_,h=>h
 |v::b,o,_,h=>bj5 c b (o+1) (Gv h c v)
theorem bg6{g:Nat}:∀(a:bi) (o:Nat) (w:World),(w.setCells g o a).heap.size=w
 | [],_,_=>rfl
 |v::a,o,w=>(bg6 a (o+1) _).trans co3
def bi2{α:Type}(E:nR α)(Pb:Nat->Prop)(d b w:World)(g:Nat)(c:List α):Prop:=kL b w/\c.length<=1000000/\b<=g/\g<w/\(∀(q:Nat),w.frozen? (g,q)=false)/\∃a,OC E Pb d c a/\∀(j:Nat) v,a.flatten[j]?=some v->w.cell? (g,j)=v
section
variable{α:Type}{E:nR α}{e:TypeId}{w:World}{xs:List α}{g:Nat}
theorem Own.toR(h:Own E e Pb u f w (A,n,b) xs)(p:0<xs.length):∃g:Nat,A=g/\bi2 E Pb u f w g xs:=by
 let⟨i,k,c,l,h2⟩:=h;have a:=h2.2;obtain⟨_,a⟩|⟨g,cap,m,a,o,d,_⟩:=a
 .omega
 cases a;exact⟨g,ii,i,k,o,(dh d).1,λq=>iM _ _ _ d,c,l,λj v hj=>by have:=bN2;rwa[aj9,wl]at this⟩
theorem bi2.some(h:bi2 E Pb u f w g xs){k r n:Nat}(b:k<xs)(d:E.n=n)(i:r<n):∃v,w.cell? (g,k*n+r)=some v:=by
 let⟨_,_,_,_,_,a,c,j⟩:=h;have l:k*E.n+r<a.flatten.length:=by rw[c.len];have:=Nat.mul_le_mul_right E.n (show k+1<=xs.length from b);rw[al9]at this;omega
 simp_all
theorem bs9{a:List bi}(d:∀c∈a,c=n)(h:J=n)(j:Nat)(i:¬(b*n<=j/\j<b*n+n)):(a.set b J).flatten[j]?=a.flatten[j]?:=by
 induction a generalizing b j with
 |nil=>rfl
 |cons c a ih=>
  have:=d c rn
  cases b with
  |zero=>
   grind
  |succ b=>
   simp[qr,as5];grind
theorem bi2.set(h:bi2 E Pb u f w g xs){k:Nat}{y:α}{ys:bi}(s:k<xs)(t:E.F Pb u y ys):bi2 E Pb u f (w.setCells g (k*E.n) ys) g (xs.set k y):=by
 let⟨z,A,o,B,C,a,d,K⟩:=h;have i:=E.len t;have D:∀c∈a,c.length=E.n:=λc b=>by obtain⟨x,_,G⟩:=d.mem b;exact E.len G
 refine⟨bj5 o _ _ z,by simpa using A,o,by rw[bg6];exact B,λq=>by rw[World.frozen?_setCells];exact C q,a.set k ys,⟨by simpa using d.1,λj x H m b=>?_⟩,λj v m=>?_⟩
 .by_cases p:k=j
  .grind
  rw[oA p]at m b;exact d.2 j x H m b
 by_cases L:k*E.n<=j/\j<k*E.n+E.n
 .have M:=be1 (n:=E.n) (l:=a.set k ys) (k:=k) (q:=j-k*E.n) (c:=ys) (λc b=>by obtain h|rfl:=at1 b;exact D c h;exact i) (nH (by have:=d.1;omega)) oX;have I:j-k*E.n<ys.length:=by omega
  have:=World.cell?_setCells_in g ys (k*E.n) w (λr p=>by let⟨v,J⟩:=(λr p=>h.some (r:=r) s ii p) r oX;rw[J];rfl) _ I;grind
 rw[World.cell?_setCells_out g ys (k*E.n) w ⟨g,j,none⟩ (λ_ _=>ci9)];grind [bs9]
theorem bi2.rd(h:bi2 E Pb u f w g xs)(hF:aV2 Pb u w2)(b:Pb g)(c:w2.heap[g]?=w.heap[g]?):ix E Pb w2 (.some g) xs:=by
 let⟨m,d,n,o,_,a,i,k⟩:=h;exact⟨d,a,i.later hF,λ_=>⟨g,0,ii,b,λj v l=>by rw[wl,kZ (w:=w) c];exact k j v l⟩⟩
end
def rwE(n:Nat):nR bi:=⟨n,λ_ _ x a=>a=x/\x=n/\∀u∈x,u.oneCell',by rintro _ _ _ _ ⟨rfl,h,_⟩;exact h,by rintro _ _ _ _ ⟨rfl,_,h⟩;exact h,λ_ h=>h,λ_ h=>h⟩
theorem wS.raw{α:Type}{E:nR α}{d:List α}(h:wS E Pb u f A d):∃a,OC E Pb u d a/\a=d.length/\ix (rwE E.n) Pb f A a:=by
 let⟨i,a,c,j⟩:=h;refine⟨a,c,c.1,by rw[c.1];exact i,a,⟨ii,λk x m A b=>?_⟩,λl=>j λe=>l (xn (by rw[c.1,e];rfl))⟩;rw[A]at b;cases b;let⟨y,_,g⟩:=c.mem (lf A);exact⟨ii,E.len g,E.one g⟩
theorem wS.bD4{α:Type}{E:nR α}{d:List α}{a:List bi}(h:ix (rwE E.n) Pb u A a)(b:OC E Pb u d a):ix E Pb u A d:=by
 let⟨j,c,f,l⟩:=h
 have e:c=a:=by
  apply ad9;intro k;have:=f.1;obtain h|h:=aj8 k a.length
  .have g:=fv h;have i:=fv (show k<c.length by omega);rw[g,i];exact congrArg some (f.2 k _ _ g i).1
  grind
 subst e;refine⟨by rw[<-b.1];exact j,c,b,λg=>l λe=>g (xn (by rw[<-b.1,e];rfl))⟩
def PM(Pb:Nat->Prop)(d w:World)(Z:World->Prop)(M:V.q9)(e:Ending)(a:World):Prop:=∃b f c g,e=Value.agg #[.slice b M.MP f,.slice c M.ws g]/\(∀W,Kept Pb d w a W->Z W->Fa Pb W b c M)/\kL w a
theorem bc6(M:V.q9)(g:Int)(k:Nat)(c:V.Ch)(J p x:am)(cc z f:Nat)(A:ce)(Z:World->Prop)(b w:World)(q:Fa Pb b J p M)(hF:aV2 Pb b w)(N:∀k,w.heap.size<=k->Pb k)(l:k<M.MP)(O:A=c.len)(Q:∀W,Z W->aV2 Pb b W->ix X8 Pb W x A)(yU:c.cap<=1000/\c.len<=f):gt 218 #[.agg #[(J,M.MP.length,cc),(p,M.ws.length,z)],I ((k:Int)+1),.agg #[c.cap,(x,c.len,f),c.pP],g] w (PM Pb b w Z ⟨M.MP.set k c,V.out g M.ws⟩):=by
 have HO:Hid (∀W,kL w W->gt 214 #[(p,M.ws.length,z),I g] W λe w'=>∃a c,e=Value.slice a (V.out g M.ws).length c/\Own wtE 236 Pb b W w' (.slice a (V.out g M.ws).length c) (V.out g M.ws)):=λW s=>aY1 M.ws g p z b W (q.2.to2 (hF.trans s))
 have hl:=q.1.1;let⟨d,R,C,S⟩:=q.1.raw;have HF:Hid (∀W,aV2 Pb b W->Z W->OC chE Pb W (M.MP.set k c) (d.set k [I c.cap,.slice x c.len f,B c.pP])):=λW h h'=>by have:=R.later h;have hF:chE.F Pb W c [I c.cap,.slice x c.len f,B c.pP]:=⟨x,f,A,ii,O,Q W h' h,yU⟩;refine⟨by simpa using this.1,λj y cs T U=>?_⟩;have h3:=this.2 j y cs;grind
 let⟨Fc,X⟩:=dA S N;clear q Q O R S N;rw[<-C]at l hl ⊢;have Ou:=ag C;clear C;have v1:IntKind.i64.wrap ((k:Int)+1-1)=k:=cx7
 go_enter func218,ntmps218;go_upto_region 1 with fail
 generalize s:World.alloc (World.alloc (World.alloc w _) _) _=t;let⟨W0,L0,S0,S1,D,⟨K1,_⟩,⟨K2,_⟩,⟨K3,F3⟩,HX⟩:=bs7 s;have Fe:=ag S1;have L:=L0.trans D;clear s S1 S0;go_upto_region 2 with(refine ae2 ii λK hK=>aX5 (E:=rwE 3) (P:=Pb) (wF:=b) (w0:=t) (xs:=[]) (ys:=d) (.tmp 10) (.tmp 12) 126 219 rfl bm6 dX ii (Own.ofE sX (aA4) cG) ii ii (Fc) (hF.trans cj4) ct8 λv1 Y H5 k5=>hK _ _ ?_;obtain⟨a1,c1,rfl⟩:=bN8;have l5:=H5.1;obtain⟨i,rfl,h5⟩:=H5.toR (show 0<d.length by omega);have o:=ag h5;clear H5 k5 h5)
 let⟨e0,h0⟩:=o.out.some (r:=0) (n:=3) l ii dX;let⟨e1,T⟩:=o.out.some (r:=1) (n:=3) l ii dX;let⟨e2,U⟩:=o.out.some (r:=2) (n:=3) l ii dX;rw[bH0]at h0;have fz:=o.out.2.2.2.2.1;have G:=D.trans l5;go_upto_region 3 with fail
 have u:bi2 (rwE 3) Pb b t (((Y.setCell ⟨i,k*3,none⟩ (I c.cap)).setCell ⟨i,k*3+1,none⟩ (.slice x c.len f)).setCell ⟨i,k*3+2,none⟩ (B c.pP)) i (d.set k [I c.cap,.slice x c.len f,B c.pP]):=o.out.set (ys:=[I c.cap,.slice x c.len f,B c.pP]) l ⟨ii,ii,cj0⟩;generalize World.setCell (World.setCell (World.setCell Y _ _) _ _) _ _=W6 at u ⊢;have v:=u.1;have a0:=D.trans v;have SD:=ag u;clear u h0 T U fz o G;go_wp2_with (go_at_call 214;refine(HO _ (L.trans v)).mono ?_;rintro e W7 ⟨a2,c2,rfl,H⟩;have l7:=v.trans H.1;have m:=ag H;clear H);refine bj2 ii ii (aw1 (kL.heap l7 HX) _ _) aR1 ?_;have hb:w.heap.size+1+1<t.heap.size/\w.heap.size<=t.heap.size:=by have:=Fe.out;omega
 have s6:=v.size;have s7:=m.out.1.size;let⟨_,_,g1,g2,_⟩:=SD.out;exact⟨_,c1,a2,c2,by simp[Ou.out],λW h hZ=>⟨(SD.out.rd h.1 (X i oX) ((h.2 i oX (by simpa using(by omega:i<W7))).trans ((aS2 oX).trans (Below.block m.out.1 i g2)))).bD4 (HF W h.1 hZ),m.out.rd h.1 (λk l=>X k oX) λk l jO=>(h.2 k oX (by simpa using jO)).trans (aS2 oX)⟩,by simp[L.trans l7]⟩