import Derived.Test.YtadifmnmfnihdaaGreatA03
set_option linter.all false
set_option maxRecDepth 100000
set_option maxHeartbeats 40000000
namespace Go.Proofs.YtadifmnmfnihdaaGreat
open Go.RowKit Mach Go.Proofs.Tryz
variable{w':World}{b n:Nat}{e:bI}{t:Wd}
section
variable{af:Nat}{F:Fx}{w w0:World}{m m0:Mem}{S:Wd}
theorem nB{o:cu}(h:mf S b=o):dH S b=o/\(-1000000000<=o.ch/\o.ch<=1000000000)/\o.cases.length<=1000:=by
 grind [mf,kJ]
theorem Uq(A:At af F m0 w0 m w S)(g:Nat)(c:S.gs[g]?=e){o:cu}(d:dH S g=o)(f:o.cases.length<=1000):gt 92 #[F.aQ,I g] w λa w'=>(∃b,a=Value.agg #[o.ai,o.ch,o.n,o.v,b,o.dG]/\dm w w' b o.cases)/\At af F m0 w0 m w' S:=by
 subst d;exact Od A g c f
theorem IB(T:To af F m0 w0 S w)(a:dk S b=t):gt 159 #[F.aQ,I b] w (ee (To af F m0 w0 t)):=by
 obtain⟨m,A⟩:=T;exact(OP A a).mono λe w' ⟨c,d⟩=>⟨c,m,d⟩
section
variable(R:bz af F w m S)(g:Nat)(x:bI)(hx:S.gs[g]?=x)(o:cu)(ho:dH S g=o)(bO:eX o.ch)(dj:o.cases.length<=1000)
include R g x hx o ho bO dj
theorem Fm(b:x.ae=4)(c:Wd)(d:Mach.lock S g (o.ch-1)=c):gt 105 #[bR F,I g] w (oV λw'=>At af F m w m w' c):=by
 obtain⟨r,c3,i⟩:=bK6;obtain⟨HX,j,k,l⟩:=ia hx ho d b;have s:=qA;have a:Hid ((dH S g).cases.length<=1000):=by rw[ho];exact dj
 clear R hx ho d b;unfold bR;go_enter func105,ntmps105;go_wp2_with (first|(go_at_call 92;refine(Uq i g HX j dj).mono ?_;rintro e t ⟨⟨u,rfl,_⟩,A1⟩;have R1:=bR3;have n:=bR4;rw[l.out]at n;have p:=bO7;clear A1 R1)|(go_at_call 155;refine(SM p.out k a ⟨_,HX⟩).mono ?_;rintro e v ⟨rfl,f⟩;have q:=ag f;clear f));go_ret;exact⟨ii,q⟩
theorem be8(c:x.ae=12):gt 105 #[bR F,I g] w (oV λw'=>At af F m w m w' ((free S (o.ch-1) g).ay g {x with ae:=13})):=by
 obtain⟨r,c3,f⟩:=bK6;obtain⟨HX,i,j⟩:=ij hx ho c;have s:=qA;clear R hx ho c;unfold bR;go_enter func105,ntmps105;go_wp2_with (first|(go_at_call 92;refine(Uq f g HX i dj).mono ?_;rintro e t ⟨⟨u,rfl,_⟩,A1⟩;have R1:=bR3;have k:=bR4;rw[j.out]at k;have y:=R1.eu;have z:=R1.pC;have l:=bO7;clear A1 R1)|(go_at_call 156;refine(C9 l.out _ _).mono ?_;rintro e A ⟨⟨b,rfl⟩,a⟩;have R2:=a.bj;have B:=R2.g HX 2 _ ii;have n:=bP0;have d:=a.g HX {x with ae:=13} (q:=2) (v:=I 13);have p:=ag d;clear a d R2));go_ret;exact⟨ii,p⟩
theorem Fo(a:x.ae=13):gt 105 #[bR F,I g] w (oV λw'=>At af F m w m w' {S.ay g {x with ae:=14}with ax:=(Mach.tD S.ax g).1}):=by
 obtain⟨r,c3,f⟩:=bK6;obtain⟨HX,i,j⟩:=ij hx ho a;have s:=qA;clear R hx ho a;unfold bR;go_enter func105,ntmps105;go_wp2_with (first|(go_at_call 92;refine(Uq f g HX i dj).mono ?_;rintro e t ⟨⟨u,rfl,_⟩,A1⟩;have R1:=bR3;have k:=bR4;rw[j.out]at k;have y:=R1.eu;have c4:=R1.nJ;have l:=bR5;have z:=R1.ne R1.aB.gs R1.aB.aQ;have A:=R1.ne R1.aB.aQ R1.aB.gs;have c:=A1.g HX {x with ae:=14} (q:=2) (v:=I 14);have n:=ag c;clear c;have B:=bO7;clear A1 R1)|(go_at_call 157;refine(Kl n.out _).mono ?_;rintro e C ⟨⟨b,rfl⟩,d⟩;have p:=ag d;clear d));go_ret;exact⟨ii,p⟩
theorem AQ(a:x.ae=16)(c:Wd)(d:dk (free S (o.ch-1) g) g=c):gt 105 #[bR F,I g] w (oV λw'=>At af F m w m w' c):=by
 obtain⟨t,c3,j⟩:=bK6;obtain⟨HX,k,l,n⟩:=ia hx ho a d;have u:=qA;clear R hx ho a d;unfold bR;go_enter func105,ntmps105;go_wp2_with (first|(go_at_call 92;refine(Uq j g HX k dj).mono ?_;rintro e v ⟨⟨y,rfl,_⟩,A1⟩;have R1:=bR3;have p:=bR4;rw[l.out]at p;have z:=R1.eu;have A:=R1.pC;have q:=bO7;clear A1 R1)|(go_at_call 156;refine(C9 q.out _ _).mono ?_;rintro e B ⟨⟨b,rfl⟩,f⟩;have r:=ag f;clear f)|(go_at_call 159;refine(OP r.out n).mono ?_;rintro e C ⟨rfl,i⟩;have s:=ag i;clear i));go_ret;exact⟨ii,s⟩
theorem Fp(hp:eO x.ae=false):gt 105 #[bR F,I g] w (eL (.bool false) λw'=>At af F m w m w' S):=by
 obtain⟨r,c3,c⟩:=bK6;obtain⟨HX,d,s⟩:=ij hx ho hp;have t:=qA;obtain⟨p,a⟩:=dC (x.ae);rw[<-a]at hp;have u:(p==4)=false:=cp7
 have f:(p==12)=false:=cp7
 have i:(p==13)=false:=cp7
 have j:(p==15)=false:=cp7
 have k:(p==16)=false:=cp7
 have l:(p==17)=false:=cp7
 have b:=ag a;clear R hx ho hp a;unfold bR;go_enter func105,ntmps105;go_wp2_with (go_at_call 92;refine(Uq c g HX d dj).mono ?_;rintro e v ⟨⟨y,rfl,_⟩,A1⟩;have R1:=bR3;have n:=bR4;rw[<-b.out]at n;have z:=R1.eu;have q:=bO7;clear A1 R1);go_ret;exact⟨ii,q⟩
theorem Da(t:x.ae=15)(aG:Good S)(s:Nat)(l:x.bY=s)(Q:fE)(n:S.ah[s]?=Q):gt 105 #[bR F,I g] w (oV λw'=>To af F m w (({S.cJ s {}with Eg:=(S.Eg.nh g x.bY).1}:Wd).ay g {x with bY:= -1,ae:=18}) w'):=by
 obtain⟨eM,c3,T⟩:=bK6;obtain⟨HX,U,W,X,u,y⟩:=mr hx ho t aG l n;have Ii:=qA;have mj:s<S.ah.length:=um n;have z:g<S.Eg.aC.length:=cq5
 rw[l];clear R hx ho t aG l n;unfold bR;go_enter func105,ntmps105;go_wp2_with (go_at_call 92;refine(Uq T g HX U dj).mono ?_;rintro e A ⟨⟨cv,rfl,_⟩,A1⟩;have R1:=bR3;have C:=bR4;rw[W.out]at C;have Y:=R1.eu;have Z:=R1.ax7;have D:=R1.g HX 8 _ ii;rw[u.out]at D;have E:=bO7;clear A1 R1);have R1:=E.out.bj;have c:=BW R1 y;have d:=R1.frozen R1.aB.ah;obtain⟨f,G⟩:=dA c d;clear R1 c d;go_still_tail 10,kX;change wpList _ _ _ _ _ A.drew;have a:=(E.out.drew).Rw y {};have H:=ag a;clear a;refine JS ii 105 (.tmp 62) (.tmp 61) ii F.ah (s*7) #[B false,I 0,I 0,I 0,B false,I 0,B false] ii ii kX (λj J=>f j J) (λj J=>G _) cj0 ?_;obtain⟨p,K,a⟩:∃p,p=_/\At af F m w m p _:=⟨_,ii,H⟩;change wpList _ _ _ _ _ (A.drew.setCells F.ah (s*7) [B false,I 0,I 0,I 0,B false,I 0,B false]);rw[<-K];have k:=a.bj;have L:(S.cJ s {}).gs[g]?=x:=HX.out;have a0:=k.eu;have Fq:=k.tf;have k8:=k.g L 8 _ ii;rw[u.out]at k8;have vC:=ag a;clear k a K H f G Z D C Y L;simp only[Act.put];go_wp2_with fail
 have a1:Hid (g<S.Eg.aC.length):=z;go_region_with (go_at_call 158;refine(Fk (S:=S.cJ s {}) vC.out.aI X.out.Eg s z).mono ?_;rintro e w3 ⟨⟨b,rfl⟩,m3,M⟩;have N:=ag M;clear M)
 all_goals
  obtain⟨w4,xX⟩:=dC (w3);have R3:=N.out.bj;have i:({S.cJ s {}with Eg:=((S.cJ s {}).Eg.nh g s).1}:Wd).gs[g]?=x:=HX.out;have k2:=R3.g i 2 _ ii;have a2:=R3.g i 8 _ ii;have a3:=bO1;have a4:=R3.frozen R3.aB.gs (g*25+8);have O:=N.out.g i {x with bY:= -1} (q:=8) (v:=I (-1));have r:=O.g (az i) {x with bY:= -1,ae:=18} (q:=2) (v:=I 18);rw[aA]at r;have Wf:=ag r;clear R3 i O r xX;go_wp2;go_ret;exact⟨ii,_,Wf.out.aI⟩
theorem Db(L:x.ae=17)(z:Int)(M:x.OK[0]?=z)(N:x.OK.length<=1000000)(A:Wd)(O:dk (({S with ax:=(Mach.ready S.ax z).1}:Wd).ay g {x with OK:=x.OK.drop 1}) g=A):gt 105 #[bR F,I g] w (oV (To af F m w A)):=by
 obtain⟨eM,c3,HR⟩:=bK6;obtain⟨HX,HO,HP,Q,B,C⟩:=mr hx ho L O M N;have Ii:=qA;clear R hx ho L O M N;unfold bR;go_enter func105,ntmps105;go_wp2_with (go_at_call 92;refine(Uq HR g HX HO dj).mono ?_;rintro e w1 ⟨⟨cv,rfl,_⟩,A1⟩;have R1:=bR3;have p2:=bR4;rw[HP.out]at p2;have We:=R1.eu;have T:=bO7;clear A1 R1);have R1:=T.out.bj;have c4:=R1.nJ;obtain⟨D,q⟩:=R1.has (r:=.OK g) (by simp only[aj,HX.out];intro h;have:=B.out;rw[at3.1 h]at this;simp at this);have s:=R1.g HX 23 _ ii;rw[Mem.de q]at s;obtain⟨n,t⟩:∃n,n+1=x.OK.length:=⟨x.OK.length-1,by have:=um B;omega⟩;rw[<-t]at s;have U:=R1.NH (r:=.OK g) (p:=(3,1)) ii dX q;simp only[aj,HX.out,ko,at8,<-t]at U;have cz:w1.cell? D=I z:=R1.cell q (by simp only[aj,HX.out,na,B.out];rfl);have E:=ag t;have W:=ag q;have Fb:0<n+1:=oX
 clear R1 q t;go_wp2_with fail
 go_region_with (go_at_call 160;refine(OO T.out.aI z).mono ?_;rintro e w3 ⟨⟨b,rfl⟩,X⟩;have v:=ag X;clear X)
 all_goals
  have c:=v.out.bj;have y:({S with ax:=(Mach.ready S.ax z).1}:Wd).gs[g]?=x:=HX.out;have d:=c.g y 23 _ ii;rw[Mem.de W.out,<-E.out]at d;have G:=c.frozen c.aB.gs (g*25+23);have Y:∀j u,((x.OK.drop 1).map I)[j]?=some u->w3.cell? ⟨D,1+j,none⟩=some u:=λj u Z=>c.cell W (by simp only[aj,y];rw[na,ay7]at Z;rw[na];exact Z)
  have BJ:=ag Y;have oh:=ag y;obtain⟨i0,hi,fV,jC,gG⟩:=AC lC;have H:(x.OK.drop 1).length=n:=by rw[bD2,<-E.out];rfl
  have f:=ag H;have cR:((x.OK.drop 1).map I).length=n*1:=by rw[ko,H];omega
  have tP:=ag cR;have J:n<1000001:=by have:=C.out;have:=E.out;omega
  have Wg:=c.lt c.aB.gs;obtain⟨cap,UU⟩:=dC (m.cap (.OK g));rw[<-UU]at d U;clear c y Y H cR UU;by_cases vN:n=0
  .subst vN;have a:x.OK.drop 1=[]:=xn f;have i:=v.out.EB oh;rw[<-a]at i;have vV:=ag i;clear a i;have HM2:Hid (dk (({S with ax:=(Mach.ready S.ax z).1}:Wd).ay g {x with OK:=x.OK.drop 1}) g=A):=Q.out;by_cases K:cap=1
   .subst K;exact cb3
   have xz:1<cap:=oX;exact cb3
  have K:0<n:=oX
  have xz:1<cap:=oX
  go_wp2_with (first|(at_builtin;refine uM ii (.const ()) (.tmp 109) 28 rfl underlying28 hi fV jC gG ii ax5 vJ ii D 1 n (cap-1) ii ((x.OK.drop 1).map I) tP BJ (bI4 _ _) K J ?_;intro a0 w5 tn a;have a1:=yr a d sX;have a2:=uI a G Wg sX;have i:=v.out.EC (j:=g) (x:=x) (l:=x.OK.drop 1) oh ⟨a.os,a.tape,a.output,a.size,λk h _=>a.block k h sX⟩ (by rw[f.out];exact ql tn v.out.bj.eS) (.inr cG);rw[f.out]at i;have vV:=ag i;clear tn a i)|(go_at_call 159;refine(IB (af:=af) (F:=F) (w0:=w) (m0:=m) ?_ Q).mono ?_;exact⟨_,vV.out.aI⟩;rintro e w5 ⟨rfl,A6⟩;have Wf:=ag A6;clear A6));go_ret;exact⟨ii,Wf⟩
end
theorem OR{args:dl}{a:Ending}(h:Calls prog b args w λe w'=>e=a/\At af F m w m w' t):Calls prog b args w λe w'=>e=a/\To af F m w t w':=
 h.mono λe w' ⟨c,d⟩=>⟨c,m,d⟩
theorem xd(R:bz af F w m S)(r:Good S)(g:Nat)(q:Wd)(d:Bool)(a:gH S g=(q,d)):gt 105 #[F.aQ,I g] w (eL (.bool d) (To af F m w q)):=by
 unfold gH at a;simp only[bW,cI]at a;obtain⟨x,e,o,c,a⟩:=a;obtain⟨c,f,h⟩:=nB c;by_cases i:x.ae=4
 .rw[aF i]at a
  cases b:Mach.lock S g (o.ch-1) with
  |none=>rw[b]at a;cases a
  |some S2=>
   rw[b]at a;cases a;exact OR (Fm R g x e o c f h i _ b)
 rw[aE i]at a;by_cases j:x.ae=12
 .rw[aF j]at a
  cases a;exact OR (be8 R g x e o c f h j)
 rw[aE j]at a;by_cases k:x.ae=13
 .rw[aF k]at a
  cases a;exact OR (Fo R g x e o c f h k)
 rw[aE k]at a;by_cases l:x.ae=15
 .rw[aF l]at a;simp only[cI]at a;obtain⟨s,n,p,t,a⟩:=a
  cases a;exact Da R g x e o c f h l r s (du n) p t
 rw[aE l]at a;by_cases n:x.ae=16
 .rw[aF n]at a
  cases b:dk (free S (o.ch-1) g) g with
  |none=>rw[b]at a;cases a
  |some S2=>
   rw[b]at a;cases a;exact OR (AQ R g x e o c f h n _ b)
 rw[aE n]at a;by_cases p:x.ae=17
 .rw[aF p]at a;simp only[cI]at a;obtain⟨z,t,a⟩:=a
  cases b:dk (({S with ax:=(Mach.ready S.ax z).1}:Wd).ay g {x with OK:=x.OK.drop 1}) g with
  |none=>rw[b]at a;cases a
  |some S2=>
   grind [Db,Good.OK]
 rw[aE p]at a
 cases a;exact OR (Fp R g x e o c f h (by simp[eO,i,j,k,l,n,p]))
theorem BY(R:bz af F w m S)(aG:Good S)(g:Nat)(a:fE)(O:Wd)(b:rE S g a=O):gt 102 #[bR F,I g,.agg #[a.cK,a.g,a.ch,a.case,a.cF,a.v,a.done]] w (ee (To af F m w O)):=by
 unfold rE at b;simp only[bW,cI]at b;obtain⟨x,hx,b⟩:=b;have eM:=bM1;have BS:g<S.Eg.aC.length:=cq5
 have c3:=R.eu;have Fq:=R.tf;obtain⟨aU,Gu,aY,aZ⟩:=R.pB;have y:=(At.refl R).alloc (.cells #[B a.cK,I a.g,I a.ch,I a.case,B a.cF,I a.v,B a.done] 105);have Q:(w.alloc (.cells #[B a.cK,I a.g,I a.ch,I a.case,B a.cF,I a.v,B a.done] 105)).heap[w.heap.size]?=_:=ag7 w _;have n:=R.iT (rx w);obtain⟨z,BK,A,C⟩:=ia y Q n hx;have s:=ag (yW y.bj aG.Eg g BS);clear R hx y Q n aG;by_cases k:(S.Eg.take g).2.2=true
 .rw[aF k]at b;simp only[cI]at b;obtain⟨j,t,Nf,D,b⟩:=b;have t:=du t;rw[k,t]at s
  cases b;have vy:j<S.ah.length:=um D;have qH:=ag D;clear k t D;unfold bR;go_enter func102,ntmps102;go_wp2_with (go_at_call 154;refine s.out.mono ?_;rintro e w2 ⟨rfl,E,i⟩;have R2:=i.bj;have c9:=R2.ax7;have We:=R2.eu;have c:({S with Eg:=(S.Eg.take g).1}:Wd).gs[g]?=x:=C.out;have g8:=R2.g c 8 _ ii;have G:=R2.frozen R2.aB.gs (g*25+8);have T:=R2.g c 2 _ ii;have o:=bP0;have H:=At.stays z.out.bj i BK A;have mq:=ag H.1;have nb:=R2.ne R2.aB.gs R2.aB.ah;have Kn:=R2.ne R2.aB.ah R2.aB.gs;have nw:=R2.ne R2.aB.gs R2.aB.aQ;have a0:=R2.ne R2.aB.aQ R2.aB.gs;have nl:F.gs≠w.heap.size:=λh=>H.2 .gs (by rw[<-h];exact R2.aB.gs);have p:=z.out.cont i;have f:=p.g c {x with bY:=j} (q:=8) (v:=I j);have U:=ag f;clear p f R2 c H i)
  obtain⟨l,J,f⟩:∃l,l=_/\At af F m w E l _:=⟨_,ii,U⟩;rw[<-J];have W:l.heap[w.heap.size]?=some (.cells #[B a.cK,I a.g,I a.ch,I a.case,B a.cF,I a.v,B a.done] 105 (0,0)):=by rw[J,fQ (dE nl)];exact mq
  obtain⟨q0,q1,q2,q3,q4,q5,q6⟩:=ao9 W;have r:=f.bj;have K:(({S with Eg:=(S.Eg.take g).1}:Wd).ay g {x with bY:=j}).ah[j]?=Nf:=qH.out;have d9:=r.ax7;rw[show(({S with Eg:=(S.Eg.take g).1}:Wd).ay g {x with bY:=j}).ah.length=S.ah.length from rfl]at d9;have L:=ag (BW r K);have US:=ag (r.frozen r.aB.ah);have d:=(f.drew).Rw K a;have u:=ag d;clear r K d f J W U c9 g8 G T o;go_still_tail 7,kX;change wpList _ _ _ _ _ l.drew;refine JS ii 105 (.tmp 43) (.tmp 42) ii F.ah (j*7) #[B a.cK,I a.g,I a.ch,I a.case,B a.cF,I a.v,B a.done] ii ii kX (λq X=>L q X) (λq X=>US _) cj0 ?_;obtain⟨M,Y,d⟩:∃M,M=_/\At af F m w E M _:=⟨_,ii,u⟩;change wpList _ _ _ _ _ (l.drew.setCells F.ah (j*7) [B a.cK,I a.g,I a.ch,I a.case,B a.cF,I a.v,B a.done]);rw[<-Y];have Z:=d.bj;have N:((({S with Eg:=(S.Eg.take g).1}:Wd).ay g {x with bY:=j}).cJ j a).gs[g]?=some {x with bY:=j}:=az (S:={S with Eg:=(S.Eg.take g).1}) C;obtain⟨k2,a1⟩:=Z.ps N 2 rfl;have A5:=d.g N {x with bY:=j,ae:=11} (q:=2) (v:=I 11);have vV:=ag A5;clear Z N A5 d Y u;simp only[Act.put];go_wp2;go_end0;exact⟨ii,_,vV.out.eq (by simp[Wd.ay,Wd.cJ,my])⟩
 rw[aE k]at b;have l:(S.Eg.take g).2.2=false:=by simpa using k
 rw[l]at s
 cases b;clear k l;unfold bR;go_enter func102,ntmps102;go_wp2_with (go_at_call 154;refine s.out.mono ?_;rintro e w2 ⟨rfl,E,i⟩;have R2:=i.bj;have c:({S with Eg:=(S.Eg.take g).1}:Wd).gs[g]?=x:=C.out;have r:=R2.g c 15 _ ii;have t:=R2.frozen R2.aB.gs (g*25+15);have T:=R2.g c 2 _ ii;have o:=bP0;have p:=z.out.cont i;have f:=p.g c {x with res:={x.res with aJ:=6}} (q:=15) (v:=I 6);have d:=f.g (az c) {x with res:={x.res with aJ:=6},ae:=16} (q:=2) (v:=I 16);rw[aA]at d;have u:=ag d;clear p f d R2 c i)
 refine UV (ad8 ii _ _ _) ii ?_;exact⟨ii,_,u⟩
end
theorem Im(x y:Nat)(j:x<18446744073709551616)(k:y<18446744073709551616)(w:World):gt 222 #[.int .u64 x,.int .u64 y] w λe m=>e=Value.tuple #[.int .u64 ((x*y / 18446744073709551616:Nat):Int),.int .u64 ((x*y % 18446744073709551616:Nat):Int)]/\w=m:=by
 obtain⟨n,l,o,c⟩:=Lib.mul64_hi x y j k;have q:=Lib.half_mul_le (a:=x / 4294967296) (b:=y / 4294967296) oX oX;have r:=Lib.half_mul_le (a:=x / 4294967296) (b:=y % 4294967296) oX oX;have s:=Lib.half_mul_le (a:=x % 4294967296) (b:=y / 4294967296) oX oX;have d:x / 4294967296*(y / 4294967296)<18446744073709551616:=oX
 have f:x / 4294967296*(y % 4294967296)<18446744073709551616:=oX
 have g:x % 4294967296*(y / 4294967296)<18446744073709551616:=oX
 have i:x / 4294967296*(y / 4294967296)+(x / 4294967296*(y % 4294967296)+x % 4294967296*(y % 4294967296) / 4294967296) / 4294967296<18446744073709551616:=oX
 have p:x / 4294967296*(y / 4294967296)+(x / 4294967296*(y % 4294967296)+x % 4294967296*(y % 4294967296) / 4294967296) / 4294967296+((x / 4294967296*(y % 4294967296)+x % 4294967296*(y % 4294967296) / 4294967296) % 4294967296+x % 4294967296*(y / 4294967296)) / 4294967296<18446744073709551616:=oX
 go_enter func222,ntmps222;go_wp2;simp only[Mul64.maskN x j,Mul64.maskN y k,Mul64.divN,Mul64.mulN,Mul64.addN,ay3 _ n,ay3 _ f,ay3 _ l,Mul64.maskN _ l,ay3 _ g,ay3 _ o,ay3 _ d,ay3 _ i,ay3 _ p,Mul64.wrapM (x*y)];rw[c];go_ret2;exact⟨ii,ii⟩
theorem Om(n:Nat)(d:n<=1000)(w:World):gt 217 #[.int .u64 1,.int .u64 n] w (eL (.tuple #[.int .u64 0,.int .u64 n]) λa=>w=a):=by
 have c:=Im 1 n oX oX w;rw[show 1*n / 18446744073709551616=0 by omega,show 1*n % 18446744073709551616=n by omega]at c;have b:=ag c;clear c;go_enter func217,ntmps217;go_wp2_with (go_at_call 222;refine b.out.mono ?_;rintro e a ⟨rfl,rfl⟩);go_ret2;exact⟨ii,ii⟩
def Part(B n:Nat)(w:World)(k:Nat)(wr:World):Prop:=wr.heap[B]?=some (.cells (List.replicate k (I (-1))++List.replicate (n-k) (I 0)).toArray 3 (0,0))/\Below w w wr
theorem wZ{k c:Nat}(a:k+c<=n):splice (List.replicate k (I (-1))++List.replicate (n-k) (I 0)) k (List.replicate c (I (-1)))=List.replicate (k+c) (I (-1))++List.replicate (n-(k+c)) (I 0):=by
 grind [splice,List.drop_append,List.drop_of_length_le,List.replicate_append_replicate]
theorem bk0(b n:Nat)(J:1<=n)(L:n<=1000)(w:World)(z:w.cell? b=I (-1)):gt 210 #[(b,1,1),I n] w (eL (w.heap.size,n,n) λA=>A.heap[w.heap.size]?=some (.cells (List.replicate n (I (-1))).toArray 3 (0,0))/\Below w w A):=by
 obtain⟨M,N,O,R,gG⟩:=AC lC;have S:=ag (λw=>Om n L w);have C:=ag z;clear z;go_enter func210,ntmps210;go_wp2_with (first|(go_at_call 217;refine(S _).mono ?_;rintro e m ⟨rfl,rfl⟩)|(at_make;go_loud (refine bH5 _ ii _ _ 28 rfl w 3 M (.int .i64 0) 1 underlying28 N O R _ _ _ _ n ii ii ii ii cl1 cj7 cG ?_)));intro m f D;have q:Below w w m:=(fp).grown D cG cm0;rw[ay0]at f;have F:=ag (rX f);have G:m.cell? b=I (-1):=by rw[q.cell (p:=b) (ba0 w _ C.out)];exact C
 have T:=ag G;clear f D G;go_wp2_with (with_reducible refine wpList_copy_splice ii (.tmp 31) (.tmp 32) 28 28 rfl 3 underlying28 kX _ _ _ _ _ _ ii ii w 0 (List.replicate n (.int .i64 0)) 3 F.out (List.replicate 1 (I (-1))) ?c1 ?c2 ?c3 ?c4 w w q cG ?_)
 case c1=>rw[vE];exact(ar3 J).symm
 case c2=>
  grind [Hid.out]
 case c3=>simp;omega
 case c4=>
  intro v i;simp at i;subst i;rfl
 intro U W H;have l:Hid (Part w n w 1 U):=by refine⟨?_,H⟩;have e:splice (List.replicate n (Value.int .i64 0)) 0 [I (-1)]=List.replicate 1 (I (-1))++List.replicate (n-1) (I 0):=wZ (n:=n) (k:=0) (c:=1) oX;grind [Hid.out]
 clear W H q F T;go_wp2;go_loopw [8] (λv wr=>∃k:Nat,v=.int .i64 k/\1<=k/\k<=n/\Hid (Part w n w k wr)) (λv _=>n-(intOf v).toNat)
 case atStart=>exact⟨1,ii,oX,oX,l⟩
 clear l;obtain⟨k,rfl,jg,hk,l⟩:=hrel;by_cases dD:k<n
 .obtain⟨c,X⟩:=dC (min k (n-k));have Y:=ag (λ(r:Array Oper) (o:Oper) (Z:Act) (K:Act->World->Prop) (Q:Exit->Act->World->Prop) (E:Prop)=>step_copy_splice (P:=prog) (ops:=r) (o:=o) (a:=Z) (w:=wr.drew) (K:=K) (Q:=Q) (E:=E) (d:=.tmp 41) (s:=.tmp 44) (dT:=28) (sT:=28) (elem:=3) (hu:=underlying28) (hsz:=kX) (dp:=some ⟨w.heap.size,k,none⟩) (sp:=some ⟨w.heap.size,0,none⟩) (dLen:=n-k) (dCap:=n-k) (sLen:=k) (sCap:=n) (g:=w.heap.size) (off:=k) (cur:=List.replicate k (I (-1))++List.replicate (n-k) (I 0)) (t:=3) (hg:=l.out.1) (cs:=List.replicate c (I (-1))) (hn:=by simp[X]) (hpos:=λ_=>⟨ii,_,ii,λj v i=>by have hj:=um i;simp at hj;have u:v=I (-1):=(by rw[uA]at i;split at i<;>simp_all);subst u;rw[aj9];show wr.cell? ⟨w.heap.size,0+j,none⟩=_;rw[al7 wr _ _ _ _ _ l.out.1];rw[au0,Ev ci8,uA];simp;omega⟩) (hfit:=ci8) (h1:=by intro v i;simp at i;rw[i.2];rfl) (B:=w.heap.size) (w0:=w) (hb:=l.out.2.drew) (hBg:=rx _));have x:¬n=k:=by omega
  go_wp2;go_region_law (refine Y _ _ _ _ _ _ ii ii (by simp[Act.eval,Act.put,x]) ck2 ?_;intro w4 a0 R8)
  all_goals
   have y:Hid (Part w n w (k+c) w4):=(by refine⟨?_,R8⟩;grind [Hid.out,wZ]);go_wp2;go_roundw
   case rel=>
    refine⟨_,_,_,_,_,_,_,_,_,_,_,_,_,_,⟨k+c,?_,oX,oX,y⟩,ii⟩;grind [Go.IntWalk.i64_in]
   have hw:=Go.IntWalk.i64_in ((k:Int)+((min k (n-k):Nat):Int)) oX;simp only[Act.put,intOf];rw[hw];simp;omega
 obtain rfl:k=n:=oX
 go_wp2;go_ret;have h:=l.out.1;simp only[bG9,List.replicate_zero,at7]at h;exact⟨ii,h,l.out.2⟩
section
variable{af:Nat}{F:Fx}{w w0 w':World}{m m0 m':Mem}{S S':Wd}{L:List (Nat×Obj)}
theorem uf(X:AB af F m0 w0 m w S L)(g:Nat)(o:cu)(f:eX o.ch)(a:am)(b c:Nat):gt 97 #[.agg #[F.aQ,I g,o.ai,o.ch,o.n,o.v,(a,b,c),o.dG]] w (eL (I (2*o.ch-2)) λw'=>AB af F m0 w0 m w' S L):=by
 have d:=ag (X.alloc (.cells #[F.aQ,I g,I o.ai,I o.ch,I o.n,I o.v,(a,b,c),B o.dG] 173));clear X;go_enter func97,ntmps97;go_wp2;go_ret;exact⟨ii,d.out.less (λp e=>nO _ e)⟩
theorem Tf(X:AB af F m0 w0 m w S L)(k:Int):gt 205 #[F.ef,k] w (eL (S.ef.len k) λw'=>AB af F m0 w0 m w' S L):=
 (By X.bj k).mono λe w' ⟨a,b⟩=>⟨a,b▸X⟩
theorem Mq(R:bz af F w m S)(g:Nat)(o:cu)(A:eX o.ch)(C:am)(D E:Nat)(b:Bool)(d:pY S o.ch=b):gt 145 #[.agg #[F.aQ,I g,o.ai,o.ch,o.n,o.v,(C,D,E),o.dG]] w (eL (.bool b) λw'=>At af F m w m w' S):=by
 have X:=(AB.iU R).alloc (.cells #[F.aQ,I g,I o.ai,I o.ch,I o.n,I o.v,(C,D,E),B o.dG] 173);have x:=bP7;have k:=ag (aJ5 X.bj o.ch);have dD:=bO9;unfold pY at d
 cases l:cZ S o.ch with
 |false=>
  rw[aF l]at d
  cases d;rw[l]at k;clear R X l;go_enter func145,ntmps145;go_wp2_with (go_at_call 138;refine k.out.mono ?_;rintro e w' ⟨rfl,rfl⟩);go_ret;exact⟨ii,x.out.at_⟩
 |true=>
  rw[aE (by simp[l])]at d;rw[l]at k;simp only[bW,cI]at d;obtain⟨⟨c,r⟩,N,d⟩:=d;obtain⟨j,u⟩:=kx N;clear N;obtain⟨rr,rb,G,y,c5,cp⟩:=R.iJ u;obtain⟨Hw,O,a,Z,Q,k0,k1,k2,_⟩:=R.eU u;rw[y]at O
  cases O;have O8:=R.lt G;have wU:=R.lt y;have cR:c<S.au.length:=um u;have hs:IntKind.i64.wrap ((c:Int)+1-1)=(c:Int):=cx7
  have c8:=R.dR;obtain⟨n,H⟩:=bO6;unfold Ring.room at d;rw[<-H]at k0 d;obtain⟨HR,uv,HC⟩:=ij u y j;by_cases z:(0:Int)<(n:Int)
  .rw[aF z]at d;have M:0<n:=by omega
   obtain⟨f,t⟩:=dC (r.full);rw[<-t]at d;have K:=ag t;rw[j]at k x ⊢;rw[j]at X A;clear R u G y Q H l j t X;go_enter func145,ntmps145;go_wp2_with (go_at_call 138;refine k.out.mono ?_;rintro e w' ⟨rfl,rfl⟩);go_quiet (fail);go_wp2_with (first|(go_at_call 53;go_in)|(go_at_call 204;refine(SP (af:=af) (F:=F) (m0:=m) (w0:=w) (m:=m) (L:=[]) (i:=c) (S:=S) ?_ HR uv).mono ?_;exact(x.out.less (λp z=>by cases z)).aI;rw[<-K.out];rintro e w2 ⟨rfl,s⟩;have J:=ag s;clear s));go_ret
   cases d;exact⟨ii,J.out.at_⟩
  rw[aE z]at d;obtain rfl:n=0:=oX
  obtain⟨q,K⟩:=dC (S.ef.len (2*o.ch-2));rw[<-K]at d;have T:=ag K;obtain⟨U,M⟩:∃U:cu,U={o with ch:=(c:Int)+1}:=⟨_,ii⟩;have t:o={o with ch:=(c:Int)+1}:=by rw[<-j]
  have a0:=ag t;have W: -1000000000<=({o with ch:=(c:Int)+1}:cu).ch/\({o with ch:=(c:Int)+1}:cu).ch<=1000000000:=by rw[<-t];exact A
  rw[j]at k x T ⊢;rw[j]at A;have WG:=ag W;clear R u G y Q H l j X K t M W;go_enter func145,ntmps145;go_wp2_with (go_at_call 138;refine k.out.mono ?_;rintro e w' ⟨rfl,rfl⟩);go_quiet (fail);go_wp2_with (go_at_call 53;go_in);go_region_with (first|(go_at_call 97;refine(uf x.out.aI g {o with ch:=(c:Int)+1} WG C D E).mono ?_;rintro e w2 ⟨rfl,s⟩;obtain⟨p0,p1,p2,p3,p4,p5,p6,p7⟩:=jo s.head;have d8:=s.bj.dR;have J:=ag s;clear s)|(go_at_call 205;refine(Tf J.out.aI _).mono ?_;rw[<-T.out];rintro e w3 ⟨rfl,Y⟩;have oh:=ag Y;clear Y))
  all_goals
   go_wp2;go_ret
   cases d;exact⟨ii,oh.out.at_.aI⟩
theorem KE(X:AB af F m0 w0 m w S L)(g:Nat)(o:cu)(f:eX o.ch)(a:am)(c d:Nat){b:Bool}(h:pY S o.ch=b):gt 145 #[.agg #[F.aQ,I g,o.ai,o.ch,o.n,o.v,(a,c,d),o.dG]] w (eL (.bool b) λw'=>AB af F m0 w0 m w' S L):=
 (Mq X.bj g o f a c d b h).mono λe w' ⟨i,j⟩=>⟨i,X.av j⟩
theorem qS(X:AB af F m0 w0 m w S L)(d:Good S)(g:Nat)(o:cu)(f:eX o.ch)(a:am)(b c:Nat):gt 147 #[.agg #[F.aQ,I g,o.ai,o.ch,o.n,o.v,(a,b,c),o.dG]] w (eL (.bool (dK S o.ch)) λw'=>AB af F m0 w0 m w' S L):=
 (Dd X.bj d g o f a b c).mono λe w' ⟨h,i⟩=>⟨h,X.av i⟩
theorem Ja(R:bz af F w m S)(g:Nat)(o:cu)(k:eX o.ch)(ca:am)(cn cc:Nat)(S':Wd)(a:aW7 S g o.ch=S'):gt 93 #[.agg #[F.aQ,I g,o.ai,o.ch,o.n,o.v,(ca,cn,cc),o.dG]] w (ee λw'=>At af F m w m w' S'):=by
 have l:=bP4;unfold aW7 at a;simp only[bW,cI]at a;obtain⟨b,f,a⟩:=a;have p:=ag f
 cases b with
 |true=>
  rw[aF rfl]at a;obtain⟨x,hx,rfl⟩:=Nb a;have c:=bL7;clear R a f hx;go_enter func93,ntmps93;go_wp2_with (first|(go_at_call 145;refine(KE l g o k ca cn cc p).mono ?_;rintro e d ⟨rfl,X⟩;obtain⟨r,s,t,u,y,z,A,B⟩:=bP6;have i:=bP7;clear X)|(go_at_call 98;refine(ig i g c o ca cn cc 4).mono ?_;rintro e d ⟨rfl,X⟩;have j:=bP7;clear X));refine UV (ad8 ii _ _ _) ii ?_;exact⟨ii,j.out.at_⟩
 |false=>
  rw[aE sX]at a;unfold fL at a
  cases hx:S.gs[g]? with
  |none=>rw[hx]at a;cases a
  |some x=>
   rw[hx]at a
   cases a;have c:=bL7;have J:=bM1;clear R f hx;go_enter func93,ntmps93;go_wp2_with (go_at_call 145;refine(KE l g o k ca cn cc p).mono ?_;rintro e d ⟨rfl,X⟩;have RN:=bP5;obtain⟨r,s,t,u,y,z,A,B⟩:=bP6;have K:=RN.dM;have i:=bP7;clear X RN);go_region_with (go_at_call 146;refine(pn i.out.aI g c o ca cn cc).mono ?_;rintro e d ⟨rfl,X⟩;have RN:=bP5;obtain⟨r,s,t,u,y,z,A,B⟩:=bP6;have d2:=RN.dM;have d3:=RN.eu;have D:=RN.g c 12 _ ii;have E:=bQ0;have nb:=bP8;have M:=bP9;have j:=bP7;clear X RN)
   all_goals
    have C:=(j.out.aI (w':=_) ii ii ii ii).g c {x with lQ:=S.av} (q:=12) (v:=I S.av);have G:=ag C;clear C;go_wp2_with (go_at_call 98;refine(ig (S:=S.ay g {x with lQ:=S.av}) G.out.aI g (az c) o ca cn cc 2).mono ?_;rintro e d ⟨rfl,X⟩;have H:=bP7;clear X);go_end0;exact⟨ii,H.out.at_.eq aA⟩
section
variable(R:bz af F w m S)(aG:Good S)(g:Nat)(o:cu)(bO:eX o.ch)(ca:am)(cn cc:Nat)
include R aG g o bO ca cn cc
theorem bj7(S':Wd)(a:jG S g o.ch=S'):gt 94 #[.agg #[F.aQ,I g,o.ai,o.ch,o.n,o.v,(ca,cn,cc),o.dG]] w (ee λw'=>At af F m w m w' S'):=by
 have B:=bP4;have C:=ag aG;unfold jG fL at a
 cases hx:S.gs[g]? with
 |none=>rw[hx]at a;simp at a
 |some x=>
  have c:=bL7;rw[hx]at a;obtain⟨b,i⟩:∃b,dK S o.ch=b:=⟨_,ii⟩;rw[i]at a;have D:=ag i
  cases b with
  |true=>
   rw[aF rfl]at a
   cases a;clear R i hx aG;go_enter func94,ntmps94;go_wp2_with (first|(go_at_call 147;refine(qS B C g o bO ca cn cc).mono ?_;rw[D.out];rintro e d ⟨rfl,X⟩;obtain⟨j,k,l,p,r,s,t,u⟩:=bP6;have y:=bP7;clear X)|(go_at_call 146;refine(pn y g c o ca cn cc).mono ?_;rintro e d ⟨rfl,X⟩;have RN:=bP5;obtain⟨j,k,l,p,r,s,t,u⟩:=bP6;have E:=RN.g c 12 _ ii;have G:=bQ0;have nb:=bP8;have H:=bP9;have f:=X.g c {x with lQ:=0} (q:=12) (v:=I 0);have z:=ag f;clear f;have J:=bP7;clear X RN)|(go_at_call 98;refine(ig (S:=S.ay g {x with lQ:=0}) z g (az c) o ca cn cc 4).mono ?_;rintro e d ⟨rfl,X⟩;have A:=bP7;clear X))
   refine UV (ad8 ii _ _ _) ii ?_;exact⟨ii,A.out.at_.eq aA⟩
  |false=>
   rw[aE sX]at a
   cases a;clear R i hx aG;go_enter func94,ntmps94;go_wp2_with (first|(go_at_call 147;refine(qS B C g o bO ca cn cc).mono ?_;rw[D.out];rintro e d ⟨rfl,X⟩;obtain⟨j,k,l,p,r,s,t,u⟩:=bP6;have y:=bP7;clear X)|(go_at_call 146;refine(pn y g c o ca cn cc).mono ?_;rintro e d ⟨rfl,X⟩;have RN:=bP5;obtain⟨j,k,l,p,r,s,t,u⟩:=bP6;have E:=RN.g c 15 _ ii;have G:=RN.frozen RN.aB.gs (g*25+15);have nb:=bP8;have H:=bP9;have f:=X.g c {x with res:={x.res with aJ:=2}} (q:=15) (v:=I 2);have z:=ag f;clear f;have J:=bP7;clear X RN)|(go_at_call 98;refine(ig (S:=S.ay g {x with res:={x.res with aJ:=2}}) z g (az c) o ca cn cc 18).mono ?_;rintro e d ⟨rfl,X⟩;have A:=bP7;clear X))
   go_end0;exact⟨ii,A.out.at_.eq aA⟩
theorem bj8(S':Wd)(a:jH S g o.ch=S'):gt 95 #[.agg #[F.aQ,I g,o.ai,o.ch,o.n,o.v,(ca,cn,cc),o.dG]] w (ee λw'=>At af F m w m w' S'):=by
 have B:=bP4;have C:=ag aG;unfold jH fL at a;obtain⟨b,d⟩:∃b,dK S o.ch=b:=⟨_,ii⟩;rw[d]at a;have D:=ag d
 cases b with
 |false=>
  rw[aE sX]at a;obtain⟨x,hx,rfl⟩:=Nb a;have f:=bL7;clear R a d hx aG;go_enter func95,ntmps95;go_wp2_with (first|(go_at_call 147;refine(qS B C g o bO ca cn cc).mono ?_;rw[D.out];rintro e c ⟨rfl,X⟩;obtain⟨i,j,k,l,p,r,s,t⟩:=bP6;have u:=bP7;clear X)|(go_at_call 98;refine(ig u g f o ca cn cc 6).mono ?_;rintro e c ⟨rfl,X⟩;have y:=bP7;clear X));refine UV (ad8 ii _ _ _) ii ?_;exact⟨ii,y.out.at_⟩
 |true=>
  rw[aF rfl]at a
  cases hx:S.gs[g]? with
  |none=>rw[hx]at a;simp at a
  |some x=>
   have f:=bL7;rw[hx]at a
   cases a;have z:Hid ((S.ay g {x with res:=bZ 3}).gs[g]?=some {x with res:=bZ 3}):=az hx
   clear R d hx aG;go_enter func95,ntmps95;go_wp2_with (first|(go_at_call 147;refine(qS B C g o bO ca cn cc).mono ?_;rw[D.out];rintro e c ⟨rfl,X⟩;obtain⟨i,j,k,l,p,r,s,t⟩:=bP6;have u:=bP7;clear X)|(go_at_call 148;refine(mG u g f o ca cn cc 3).mono ?_;rintro e c ⟨rfl,X⟩;have RN:=bP5;obtain⟨i,j,k,l,p,r,s,t⟩:=bP6;have K:=RN.dM;have y:=bP7;clear X RN));go_region_with (go_at_call 146;refine(pn (S:=S.ay g {x with res:=bZ 3}) y.out.aI g z o ca cn cc).mono ?_;rintro e c ⟨rfl,X⟩;have RN:=bP5;obtain⟨i,j,k,l,p,r,s,t⟩:=bP6;have d2:=RN.dM;have E:=RN.g z 12 _ ii;have G:=bQ0;have nb:=bP8;have M:=bP9;have H:=bP7;clear X RN)
   all_goals
    have A:=(H.out.aI (w':=_) ii ii ii ii).g z {x with res:=bZ 3,lQ:=S.av} (q:=12) (v:=I S.av);rw[aA]at A;have J:=ag A;clear A;go_wp2_with (go_at_call 98;refine(ig (S:=S.ay g {x with res:=bZ 3,lQ:=S.av}) J.out.aI g (az f) o ca cn cc 16).mono ?_;rintro e c ⟨rfl,X⟩;have Hb:=bP7;clear X);exact ch8
end
theorem Rb(X:AB af F m0 w0 m w S L){r:Ring}(h:S.au[b]?=r)(a:m.aV (.eU b)=n)(c:r.Ok):gt 209 #[n] w (eL (.tuple #[r.get.2.1,.bool r.get.2.2]) λw'=>AB af F m0 w0 m w' (S.dZ b r.get.1) L):=
 (N2 X.bj h a c).mono λe w' ⟨d,f⟩=>⟨d,X.av f⟩
theorem qM{o:cu}{S':Wd}(a:jZ S b o=S'):∃S2 v c,(if cZ S o.ch=true then getRing S o.ch else some (S,0,false))=(S2,v,c)/\(if c=true then fL S2 b λx=>{x with res:={aJ:=1,case:= -1,v:=v,ok:=true},lQ:=S2.av,ae:=16}else if o.ai=3 then Gt S2 b 10 else fL S2 b λx=>{x with res:={aJ:=2,case:= -1},lQ:=S2.av,ae:=16})=S':=by
 unfold jZ at a;simp only[bW]at a;by_cases h:cZ S o.ch=true
 .rw[aF h]at a ⊢;simp only[cI]at a;obtain⟨⟨S2,v,c⟩,d,a⟩:=a;exact⟨S2,v,c,d,a⟩
 rw[aE h]at a ⊢;exact⟨S,0,false,ii,a⟩
theorem IE(R:bz af F w m S)(y:Good S)(g:Nat)(hg:g<S.gs)(o:cu)(bO:eX o.ch)(Y:am)(Z cc:Nat)(S':Wd)(a:jZ S g o=S'):gt 166 #[bR F,I g,.agg #[o.ai,o.ch,o.n,o.v,(Y,Z,cc),o.dG]] w (ee λw'=>At af F m w m w' S'):=by
 have l:=(AB.iU R).alloc (.cells #[I o.ai,I o.ch,I o.n,I o.v,(Y,Z,cc),B o.dG] 49);have H:=ag l;have p:=ag (aJ5 l.bj o.ch);obtain⟨x,hx⟩:∃x,S.gs[g]?=some x:=⟨_,fv hg⟩;obtain⟨S2,v,ok,i,a⟩:=qM a;have c2:=R.dM;have c3:=R.eu;obtain⟨aU,Gu,aY,aZ⟩:=R.pB
 cases j:cZ S o.ch with
 |false=>
  rw[aE (by simp[j])]at i
  cases i;rw[aE sX]at a;rw[j]at p;obtain⟨E,G⟩:=bM2;obtain⟨k,K⟩:=bQ4;obtain⟨s,M⟩:=bQ5;obtain⟨t,N⟩:=bQ6;obtain⟨u,O⟩:=bQ7;obtain⟨A,Q⟩:=bQ8;obtain⟨C,T⟩:=bQ9;have b:=At.refl R;have HG:=bL7;by_cases hk:o.ai=3
  .rw[aF hk]at a;obtain⟨x',z,rfl⟩:=Nb a;rw[hx]at z
   cases z;have J:(o.ai==3)=true:=cn9;have A1:=b.g HG {x with ae:=10} (q:=2) (v:=I 10)
   have HA:=bO7;clear A1;clear R y hx j hk b l a;unfold bR;go_enter func166,ntmps166;go_wp2_with (go_at_call 138;refine p.out.mono ?_;rintro e D ⟨rfl,rfl⟩);refine UV (ad8 ii _ _ _) ii ?_;exact⟨ii,HA.out.alloc _⟩
  .rw[aE hk]at a;simp only[fL,hx,km,oZ]at a;subst a;have J:(o.ai==3)=false:=by simpa using hk
   have A1:=b.res HG {aJ:=2,case:= -1};have d:=A1.g (az HG) {x with res:={aJ:=2,case:= -1},lQ:=(S).av} (q:=12) (v:=I S.av);rw[aA]at d;have f:=d.g (az HG) {x with res:={aJ:=2,case:= -1},lQ:=(S).av,ae:=16} (q:=2) (v:=I 16);rw[aA]at f;have HA:=ag f;clear A1 d f;clear R y hx j hk b l;unfold bR;go_enter func166,ntmps166;go_wp2_with (go_at_call 138;refine p.out.mono ?_;rintro e D ⟨rfl,rfl⟩);go_end0;exact⟨ii,HA.out.alloc _⟩
 |true=>
  rw[aF j]at i;unfold getRing at i;simp only[bW,cI]at i;obtain⟨⟨c,r⟩,tS,i⟩:=i;obtain⟨K,s⟩:=kx tS;clear tS;have E:=y.au c r s;obtain⟨rr,rb,G,A,c5,cp⟩:=R.iJ s;have O8:=R.lt G;have wU:=R.lt A;have cR:c<S.au.length:=um s;have hs:IntKind.i64.wrap (o.ch-1)=(c:Int):=cx7
  obtain⟨M,N,O⟩:=ij s A E;rw[j]at p;have HG:Hid ((S.dZ c r.get.1).gs[g]?=some x):=hx;obtain⟨Q,k,t⟩:∃Q k,r.get.2=(Q,k):=⟨_,_,ii⟩;have T:r.get.2.1=Q:=by rw[t]
  have U:r.get.2.2=k:=by rw[t]
  rw[T,U]at i;obtain⟨u,W⟩:=dA T U;clear t T U
  cases k with
  |true=>
   cases i;rw[aF rfl]at a;simp only[fL,HG.out,km,oZ]at a;subst a;clear R y hx j l s G A E K;unfold bR;go_enter func166,ntmps166;go_wp2_with (go_at_call 138;refine p.out.mono ?_;rintro e D ⟨rfl,rfl⟩);go_region_with (go_at_call 209;refine(Rb H.out.aI M N O).mono ?_;rw[u.out,W.out];rintro e wN ⟨rfl,X⟩;have RN:=bP5;obtain⟨q0,q1,q2,q3,q4,q5⟩:=bR6;obtain⟨e2,p2,UZ,U0,FB,Bo,Ip,ZM,b,nb⟩:=bJ3;obtain⟨wW,Dm,Fz,FA,FC,FD⟩:=bJ9;have C:=bQ0;have Kn:=bP9;have A1:=b.res HG {aJ:=1,case:= -1,v:=v,ok:=true};have d:=A1.g (az HG) {x with res:={aJ:=1,case:= -1,v:=v,ok:=true},lQ:=(S.dZ c r.get.1).av} (q:=12) (v:=I S.av);rw[aA]at d;have f:=d.g (az HG) {x with res:={aJ:=1,case:= -1,v:=v,ok:=true},lQ:=(S.dZ c r.get.1).av,ae:=16} (q:=2) (v:=I 16);rw[aA]at f;have HA:=ag f;clear A1 d f;clear b X RN)
   all_goals
    exact ce8
  |false=>
   cases i;rw[aE sX]at a;by_cases hk:o.ai=3
   .rw[aF hk]at a;obtain⟨x',z,rfl⟩:=Nb a;rw[HG.out]at z
    cases z;have J:(o.ai==3)=true:=cn9;clear R y hx j hk l s G A E K a;unfold bR;go_enter func166,ntmps166;go_wp2_with (go_at_call 138;refine p.out.mono ?_;rintro e D ⟨rfl,rfl⟩);go_region_with (go_at_call 209;refine(Rb H.out.aI M N O).mono ?_;rw[u.out,W.out];rintro e wN ⟨rfl,X⟩;have RN:=bP5;obtain⟨q0,q1,q2,q3,q4,q5⟩:=bR6;obtain⟨e2,p2,UZ,U0,FB,Bo,Ip,ZM,b,nb⟩:=bJ3;obtain⟨wW,Dm,Fz,FA,FC,FD⟩:=bJ9;have C:=bQ0;have Kn:=bP9;have A1:=b.g HG {x with ae:=10} (q:=2) (v:=I 10);have HA:=bO7;clear A1;clear b X RN)
    all_goals
     exact ce8
   rw[aE hk]at a;simp only[fL,HG.out,km,oZ]at a;subst a;have J:(o.ai==3)=false:=cn9;clear R y hx j hk l s G A E K;unfold bR;go_enter func166,ntmps166;go_wp2_with (go_at_call 138;refine p.out.mono ?_;rintro e D ⟨rfl,rfl⟩);go_region_with (go_at_call 209;refine(Rb H.out.aI M N O).mono ?_;rw[u.out,W.out];rintro e wN ⟨rfl,X⟩;have RN:=bP5;obtain⟨q0,q1,q2,q3,q4,q5⟩:=bR6;obtain⟨e2,p2,UZ,U0,FB,Bo,Ip,ZM,b,nb⟩:=bJ3;obtain⟨wW,Dm,Fz,FA,FC,FD⟩:=bJ9;have C:=bQ0;have Kn:=bP9;have A1:=b.res HG {aJ:=2,case:= -1};have d:=A1.g (az HG) {x with res:={aJ:=2,case:= -1},lQ:=(S.dZ c r.get.1).av} (q:=12) (v:=I S.av);rw[aA]at d;have f:=d.g (az HG) {x with res:={aJ:=2,case:= -1},lQ:=(S.dZ c r.get.1).av,ae:=16} (q:=2) (v:=I 16);rw[aA]at f;have HA:=ag f;clear A1 d f;clear b X RN)
   all_goals
    go_wp2;go_end0;exact⟨ii,HA.out.aI⟩