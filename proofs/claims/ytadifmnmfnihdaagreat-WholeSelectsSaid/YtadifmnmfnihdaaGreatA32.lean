import Derived.Test.YtadifmnmfnihdaaGreatA26
import Derived.Test.YtadifmnmfnihdaaGreatA28
import Derived.Test.YtadifmnmfnihdaaGreatA30
import Derived.Test.YtadifmnmfnihdaaGreatA31
set_option linter.all false
set_option maxRecDepth 100000
set_option maxHeartbeats 40000000
namespace Go.Proofs.YtadifmnmfnihdaaGreat
open Go.RowKit Mach Go.Proofs.Tryz
section
variable{af:Nat}{F:Fx}{w w0 w':World}{m m0 m':Mem}{S S':Wd}{L:List (Nat×Obj)}
theorem Bq(R:bz af F w m S)(g:Nat)(p:Int)(S':Wd)(hm:jt S g p=some S'):Calls prog 112 #[.pointer (some ⟨F.al,0,none⟩),I g,I p] w (ee fun w'=>At af F m w m w' S'):=by
 unfold jt at hm;simp only[bW,cI]at hm;obtain⟨x,hx,l,hl,hm⟩:=hm;obtain⟨k,hk,_,hl⟩:=mO hl;by_cases h1:kJ l=false
 ·rw[aF h1]at hm;cases hm
 rw[aE h1]at hm;have VT:=lM h1;by_cases h2:(ek S.aq (l-1) g).2=false
 ·rw[aF h2]at hm
  cases hm;exact E6 R g p x hx k hk l hl VT h2
 rw[aE h2]at hm;by_cases h3:kJ x.k=false
 ·rw[aF h3]at hm;cases hm
 rw[aE h3]at hm
 cases hm;have jA:=lM h3;have h:=CV R g p x hx k hk l hl VT (by simpa using h2) (by omega) _ rfl;rw[hk];exact h
theorem qY{x:bI}{i:Int}(h:dU x=some i):∃kn:Nat,x.k=kn∧x.aH[kn]?=some i:=by
 obtain⟨kn,h1,_,h2⟩:=mO h;exact⟨kn,h1,h2⟩
theorem D0{α:Type}{l l':List α}{i:Int}{x:α}(h:Mach.put l i x=some l'):∃k:Nat,i=k∧k<l.length∧l'=l.set k x:=by
 unfold Mach.put at h;by_cases hc:0≤i∧i.toNat<l.length
 ·rw[aF hc]at h
  cases h;exact⟨i.toNat,by omega,hc.2,rfl⟩
 ·rw[aE hc]at h;cases h
theorem D1(X0:AB af F m0 w0 m w S L)(aG:Good S)(g:Nat)(o:cu)(nb:Nat)(ob:Obj)(fD:(nb,ob)∈L)(fP:CB nb ob o.cases)(cc:Nat)(S':Wd)(hm:ju S g o=some S'):Calls prog 116 #[.pointer (some ⟨F.al,0,none⟩),I g,.agg #[I o.ai,I o.ch,I o.n,I o.v,.slice (some ⟨nb,0,none⟩) o.cases.length cc,B o.dG]] w (ee fun w'=>∃m',AB af F m0 w0 m' w' S' L):=by
 unfold ju at hm;simp only[bW,cI]at hm;obtain⟨x,hx,hm⟩:=hm;obtain⟨p,v,b,ht⟩:∃p v b,S.ar.take g=(p,v,b):=⟨_,_,_,rfl⟩;rw[ht]at hm
 cases b with
 |false=>
  simp only[dt]at hm
  cases hm;exact DZ X0 aG g x hx o nb ob fD fP cc p v ht
 |true=>
  simp only[m8,dF,cI]at hm;obtain⟨i,hi,c,hc,j,hj,sd,eo,sg,oo,hm⟩:=hm;have hj:=du hj;obtain⟨kn,jA,hi⟩:=qY hi;obtain⟨k,hk,BG,bO⟩:=qW hc;subst hk;by_cases h1:kJ x.k=false
  ·rw[aF h1]at hm;cases hm
  rw[aE h1]at hm;have h9:=lM h1;obtain⟨k2,jO,Ye,rfl⟩:=D0 oo;obtain rfl:k2=k:=by omega
  subst hj;rw[jA]at hm h9;by_cases he:(x.aH.length:Int)≤(kn:Int)+1
  ·rw[aF he]at hm
   cases hm;exact Bp X0 aG g x hx o nb ob fD fP cc p j ht kn k2 jA h9.2 hi c BG sd eo Ye (by omega)
  ·rw[aE he]at hm
   cases hm;exact zX X0 aG g x hx o nb ob fD fP cc p j ht kn k2 jA h9.2 hi c BG sd eo Ye (by omega)
theorem QP(X0:AB af F m0 w0 m w S L)(g:Nat)(o:cu)(nb:Nat)(ob:Obj)(fD:(nb,ob)∈L)(fP:CB nb ob o.cases)(cc:Nat)(S':Wd)(hm:gK S g o=some S'):Calls prog 117 #[.pointer (some ⟨F.al,0,none⟩),I g,.agg #[I o.ai,I o.ch,I o.n,I o.v,.slice (some ⟨nb,0,none⟩) o.cases.length cc,B o.dG]] w (ee fun w'=>∃m',AB af F m0 w0 m' w' S' L):=by
 unfold gK at hm;simp only[bW,cI]at hm;obtain⟨x,hx,i,hi,c,hc,s,hs,S1,h1,hm⟩:=hm;obtain⟨kn,jA,hi⟩:=qY hi;obtain⟨k,hk,BG,bO⟩:=qW hc;subst hk;rw[eR]at hs;by_cases h9:kJ x.k=false
 ·rw[aF h9]at hm;cases hm
 rw[aE h9]at hm;have h9:=lM h9;rw[jA]at hm h9
 cases eo:c.cF with
 |true=>
  rw[eo,aF rfl]at h1;by_cases he:(x.aH.length:Int)≤(kn:Int)+1
  ·rw[aF he]at hm
   cases hm;exact Co X0 g x hx o nb ob fD fP cc kn k jA h9.2 hi c BG _ (.inl ⟨eo,rfl⟩) bO s hs S1 h1 (by omega)
  ·rw[aE he]at hm
   cases hm;exact zY X0 g x hx o nb ob fD fP cc kn k jA h9.2 hi c BG _ (.inl ⟨eo,rfl⟩) bO s hs S1 h1 (by omega)
 |false=>
  rw[eo,aE (by simp)]at h1;by_cases he:(x.aH.length:Int)≤(kn:Int)+1
  ·rw[aF he]at hm
   cases hm;exact Co X0 g x hx o nb ob fD fP cc kn k jA h9.2 hi c BG _ (.inr ⟨eo,rfl⟩) bO s hs S1 h1 (by omega)
  ·rw[aE he]at hm
   cases hm;exact zY X0 g x hx o nb ob fD fP cc kn k jA h9.2 hi c BG _ (.inr ⟨eo,rfl⟩) bO s hs S1 h1 (by omega)
theorem MS(R:bz af F w m S)(g:Nat)(S':Wd)(hm:uG S g=some S'):Calls prog 120 #[.pointer (some ⟨F.al,0,none⟩),I g] w (ee fun w'=>At af F m w m w' S'):=by
 unfold uG at hm;simp only[bW,cI]at hm;obtain⟨x,hx,i,hi,s,hs,S1,h1,hm⟩:=hm;obtain⟨kn,jA,hi⟩:=qY hi;obtain⟨k,hk,_,hs⟩:=mO hs;subst hk;by_cases h9:kJ x.k=false
 ·rw[aF h9]at hm;cases hm
 rw[aE h9]at hm;have h9:=lM h9;rw[jA]at hm h9;by_cases he:(x.aH.length:Int)≤(kn:Int)+1
 ·rw[aF he]at hm
  cases hm;exact QM R g x hx kn k jA h9.2 hi s hs S1 h1 (by omega)
 ·rw[aE he]at hm
  cases hm;exact MQ R g x hx kn k jA h9.2 hi s hs S1 h1 (by omega)
theorem Br(R:bz af F w m S)(aG:Good S)(g:Nat)(S':Wd)(hm:jK S g=some S'):Calls prog 122 #[.pointer (some ⟨F.al,0,none⟩),I g] w (ee (To af F m w S')):=by
 unfold jK at hm;simp only[bW,cI]at hm;obtain⟨x,hx,i,hi,s,hs,hm⟩:=hm;obtain⟨kn,jA,hi⟩:=qY hi;obtain⟨k,hk,_,hs⟩:=mO hs;subst hk;by_cases rh:s= -1
 ·rw[aF rh]at hm;simp only[eN,cI]at hm;obtain⟨sg,oo,hm⟩:=hm;obtain⟨k2,jO,_,rfl⟩:=D0 oo;obtain rfl:k2=k:=by omega
  by_cases h9:kJ x.k=false
  ·rw[aF h9]at hm;cases hm
  rw[aE h9]at hm;have h9:=lM h9;rw[jA]at hm h9;subst rh;by_cases he:(x.aH.length:Int)≤(kn:Int)+1
  ·rw[aF he]at hm
   cases hm;exact QN R aG g x hx kn k2 jA h9.2 hi hs _ (.inl ⟨by omega,rfl⟩)
  ·rw[aE he]at hm
   cases hm;exact QN R aG g x hx kn k2 jA h9.2 hi hs _ (.inr ⟨by omega,rfl⟩)
 ·rw[aE rh]at hm;simp only[eN,cI]at hm;obtain⟨S1,⟨j,hj,sd,eo,h1⟩,sg,oo,hm⟩:=hm;obtain⟨k2,jO,_,rfl⟩:=D0 oo;obtain rfl:k2=k:=by omega
  by_cases h9:kJ x.k=false
  ·rw[aF h9]at hm;cases hm
  rw[aE h9]at hm;have h9:=lM h9;rw[jA]at hm h9;have hj:=du hj;subst hj
  cases h1;by_cases he:(x.aH.length:Int)≤(kn:Int)+1
  ·rw[aF he]at hm
   cases hm;exact QO R aG g x hx kn k2 jA h9.2 hi j sd eo hs _ (.inl ⟨by omega,rfl⟩)
  ·rw[aE he]at hm
   cases hm;exact QO R aG g x hx kn k2 jA h9.2 hi j sd eo hs _ (.inr ⟨by omega,rfl⟩)
theorem GA(A:At af F m0 w0 m w S){g:Nat}{p:Int}{S':Wd}(hm:jt S g p=some S'):Calls prog 112 #[bR F,I g,I p] w (ee (To af F m0 w0 S')):=
 (Bq A.bj g p S' hm).mono fun e w' ⟨h1,h2⟩=>⟨h1,m,A.cont h2⟩
theorem D2(A:At af F m0 w0 m w S){g:Nat}(oo:∀x,S.gs[g]?=some x→x.bA.length≤1000000){S':Wd}(hm:iH S g=some S'):Calls prog 118 #[bR F,I g] w (ee (To af F m0 w0 S')):=
 (zi A.bj g oo S' hm).mono fun e w' ⟨h1,h2⟩=>⟨h1,m,A.cont h2⟩
theorem T1(A:At af F m0 w0 m w S){g:Nat}{S':Wd}(hm:uF S g=some S'):Calls prog 119 #[bR F,I g] w (ee (To af F m0 w0 S')):=
 (MJ A.bj g S' hm).mono fun e w' ⟨h1,h2⟩=>⟨h1,m,A.cont h2⟩
theorem T2(A:At af F m0 w0 m w S){g:Nat}{S':Wd}(hm:uG S g=some S'):Calls prog 120 #[bR F,I g] w (ee (To af F m0 w0 S')):=
 (MS A.bj g S' hm).mono fun e w' ⟨h1,h2⟩=>⟨h1,m,A.cont h2⟩
theorem GB(A:At af F m0 w0 m w S)(aG:Good S){g:Nat}{S':Wd}(hm:jK S g=some S'):Calls prog 122 #[bR F,I g] w (ee (To af F m0 w0 S')):=
 (Br A.bj aG g S' hm).mono fun e w' ⟨h1,m',h2⟩=>⟨h1,m',A.cont h2⟩
theorem MT(A:At af F m0 w0 m w S)(aG:Good S){g:Nat}{d:Bool}{S':Wd}(hm:gH S g=some (S',d)):Calls prog 105 #[bR F,I g] w (eL (.bool d) (To af F m0 w0 S')):=
 (xd A.bj aG g S' d hm).mono fun e w' ⟨h1,m',h2⟩=>⟨h1,m',A.cont h2⟩
theorem Bs(A:At af F m0 w0 m w S){g:Nat}{S':Wd}(hm:eH S g=some S'):Calls prog 114 #[bR F,I g] w (ee fun w'=>At af F m0 w0 m w' S'):=
 (rm A.bj g S' hm).mono fun e w' ⟨h1,h2⟩=>⟨h1,A.cont h2⟩
theorem px(R:bz af F w m S)(aG:Good S)(g:Nat)(x:bI)(hx:S.gs[g]?=some x)(oo:x.ae=30→x.bA.length≤1000000)(o:cu)(ho:dH S g=o)(bO:eX o.ch)(dj:o.cases.length≤1000)(hk:o.ai=9)(S':Wd)(hm:(x.ae=13∧gH S g=some (S',true))∨(x.ae=17∧gH S g=some (S',true))∨(x.ae=24∧jt S g 25=some S')∨(x.ae=31∧jt S g 32=some S')∨(x.ae=30∧iH S g=some S')∨(x.ae=14∧uF S g=some S')∨(x.ae=32∧uG S g=some S')∨(x.ae=34∧jK S g=some S')):Calls prog 64 #[bR F,I g] w (oV (To af F m w S')):=by
 have eM:=cA hx;have HR:=ag (At.refl R);have QQ:=ag R;have oz:(o.ai !=9)=false:=by rw[hk];rfl
 rcases hm with⟨hp,hm⟩|⟨hp,hm⟩|⟨hp,hm⟩|⟨hp,hm⟩|⟨hp,hm⟩|⟨hp,hm⟩|⟨hp,hm⟩|⟨hp,hm⟩
 all_goals
  obtain⟨HX,HO,HP,ie⟩:=ia hx ho hp aG;have MR:Hid (∀x,S.gs[g]?=some x→x.ae=30→x.bA.length≤1000000):=fun y hy=>by rw[hx]at hy;cases hy;exact oo
  have HM:=ag hm;clear R hx ho hp hk aG oo hm;unfold bR;go_enter func64,ntmps64;go_wp2_with (first|(go_at_call 92;refine(dw HR.out g HX.out HO.out dj).mono ?_;rintro e w1 ⟨⟨cv,rfl,gE⟩,A1⟩;obtain⟨ca,cc,rfl⟩:=dm.shape gE;have R1:=A1.bj;have p2:=R1.g HX.out 2 _ rfl;rw[HP.out]at p2;have c3:=R1.eu;have cm:=R1.lt R1.aB.gs;have aU:=R1.lt R1.aB.al;have iv:=ag (A1.alloc (eD o ca cc));clear A1 R1 gE)|(go_at_call 105;refine(MT (af:=af) (F:=F) (m0:=m) (w0:=w) (m:=m) (S:=S) ?_ ie.out HM.out).mono ?_;exact iv.out.aI;rintro e wN ⟨rfl,T⟩;have HT:=ag T;clear T)|(go_at_call 112;refine(GA (af:=af) (F:=F) (m0:=m) (w0:=w) (m:=m) (S:=S) ?_ HM.out).mono ?_;exact iv.out.aI;rintro e wN ⟨rfl,T⟩;have HT:=ag T;clear T)|(go_at_call 118;refine(D2 (af:=af) (F:=F) (m0:=m) (w0:=w) (m:=m) (S:=S) ?_ (fun y hy=>MR.out y hy (by rw[HX.out]at hy;cases hy;exact HP.out)) HM.out).mono ?_;exact iv.out.aI;rintro e wN ⟨rfl,T⟩;have HT:=ag T;clear T)|(go_at_call 119;refine(T1 (af:=af) (F:=F) (m0:=m) (w0:=w) (m:=m) (S:=S) ?_ HM.out).mono ?_;exact iv.out.aI;rintro e wN ⟨rfl,T⟩;have HT:=ag T;clear T)|(go_at_call 120;refine(T2 (af:=af) (F:=F) (m0:=m) (w0:=w) (m:=m) (S:=S) ?_ HM.out).mono ?_;exact iv.out.aI;rintro e wN ⟨rfl,T⟩;have HT:=ag T;clear T)|(go_at_call 122;refine(GB (af:=af) (F:=F) (m0:=m) (w0:=w) (m:=m) (S:=S) ?_ ie.out HM.out).mono ?_;exact iv.out.aI;rintro e wN ⟨rfl,T⟩;have HT:=ag T;clear T));go_ret;exact⟨rfl,HT.out⟩
theorem QR(R:bz af F w m S)(aG:Good S)(g:Nat)(x:bI)(hx:S.gs[g]?=some x)(oo:x.ae=30→x.bA.length≤1000000)(o:cu)(ho:dH S g=o)(bO:eX o.ch)(dj:o.cases.length≤1000)(hk:o.ai=9)(hp:x.ae=26)(S1:Wd)(h1:rD S g 25 27=some S1)(S':Wd)(h2:eH S1 g=some S'):Calls prog 64 #[bR F,I g] w (oV (To af F m w S')):=by
 have eM:=cA hx;have HR:=ag (At.refl R);have QQ:=ag R;have oz:(o.ai !=9)=false:=by rw[hk];rfl
 obtain⟨HX,HO,HP,ie⟩:=ia hx ho hp aG;have MR:Hid (∀x,S.gs[g]?=some x→x.ae=30→x.bA.length≤1000000):=fun y hy=>by rw[hx]at hy;cases hy;exact oo
 obtain⟨H1,H2⟩:=dA h1 h2;clear R hx ho hp hk aG oo h1 h2;unfold bR;go_enter func64,ntmps64;go_wp2_with (first|(go_at_call 92;refine(dw HR.out g HX.out HO.out dj).mono ?_;rintro e w1 ⟨⟨cv,rfl,gE⟩,A1⟩;obtain⟨ca,cc,rfl⟩:=dm.shape gE;have R1:=A1.bj;have p2:=R1.g HX.out 2 _ rfl;rw[HP.out]at p2;have c3:=R1.eu;have cm:=R1.lt R1.aB.gs;have aU:=R1.lt R1.aB.al;have iv:=ag (A1.alloc (eD o ca cc));clear A1 R1 gE)|(go_at_call 99;refine(Wc (af:=af) (F:=F) (m0:=m) (w0:=w) (m:=m) (S:=S) ?_ H1.out).mono ?_;exact iv.out.aI;rintro e wN ⟨rfl,A2⟩;have nx:=ag A2;clear A2)|(go_at_call 114;refine(Bs nx.out H2.out).mono ?_;rintro e Yd ⟨rfl,A3⟩;have HT:=ag A3;clear A3));go_ret;exact⟨rfl,m,HT.out⟩
theorem MU(R:bz af F w m S)(aG:Good S)(g:Nat)(x:bI)(hx:S.gs[g]?=some x)(oo:x.ae=30→x.bA.length≤1000000)(o:cu)(ho:dH S g=o)(bO:eX o.ch)(dj:o.cases.length≤1000)(hk:o.ai=9)(hp:x.ae=33)(S':Wd)(hm:ep S g=some (S',false)):Calls prog 64 #[bR F,I g] w (oV (To af F m w S')):=by
 have eM:=cA hx;have HR:=ag (At.refl R);have QQ:=ag R;have oz:(o.ai !=9)=false:=by rw[hk];rfl
 obtain⟨HX,HO,HP,ie⟩:=ia hx ho hp aG;have MR:Hid (∀x,S.gs[g]?=some x→x.ae=30→x.bA.length≤1000000):=fun y hy=>by rw[hx]at hy;cases hy;exact oo
 have HM:=ag hm;clear R hx ho hp hk aG oo hm;unfold bR;go_enter func64,ntmps64;go_wp2_with (first|(go_at_call 92;refine(dw HR.out g HX.out HO.out dj).mono ?_;rintro e w1 ⟨⟨cv,rfl,gE⟩,A1⟩;obtain⟨ca,cc,rfl⟩:=dm.shape gE;have R1:=A1.bj;have p2:=R1.g HX.out 2 _ rfl;rw[HP.out]at p2;have c3:=R1.eu;have cm:=R1.lt R1.aB.gs;have aU:=R1.lt R1.aB.al;have iv:=ag (A1.alloc (eD o ca cc));clear A1 R1 gE)|(go_at_call 121;refine(jb (af:=af) (F:=F) (m0:=m) (w0:=w) (m:=m) (S:=S) ?_ HM.out).mono ?_;exact iv.out.aI;rintro e wN ⟨rfl,A2⟩;have HT:=ag A2;clear A2));go_ret;exact⟨rfl,m,HT.out⟩
theorem MV(R:bz af F w m S)(aG:Good S)(g:Nat)(x:bI)(hx:S.gs[g]?=some x)(oo:x.ae=30→x.bA.length≤1000000)(o:cu)(ho:dH S g=o)(bO:eX o.ch)(dj:o.cases.length≤1000)(hk:o.ai=9)(hp:x.ae=33)(S1:Wd)(hm:ep S g=some (S1,true))(x1:bI)(eE:S1.gs[g]?=some x1):Calls prog 64 #[bR F,I g] w (oV fun w'=>To af F m w (S1.ay g {x1 with ae:=34}) w'):=by
 have eM:=cA hx;have HR:=ag (At.refl R);have QQ:=ag R;have oz:(o.ai !=9)=false:=by rw[hk];rfl
 obtain⟨HX,HO,HP,ie⟩:=ia hx ho hp aG;have MR:Hid (∀x,S.gs[g]?=some x→x.ae=30→x.bA.length≤1000000):=fun y hy=>by rw[hx]at hy;cases hy;exact oo
 obtain⟨HM,jc⟩:=dA hm eE;have aB4:g<S1.gs.length:=cA eE;clear R hx ho hp hk aG oo hm eE;unfold bR;go_enter func64,ntmps64;go_wp2_with (first|(go_at_call 92;refine(dw HR.out g HX.out HO.out dj).mono ?_;rintro e w1 ⟨⟨cv,rfl,gE⟩,A1⟩;obtain⟨ca,cc,rfl⟩:=dm.shape gE;have R1:=A1.bj;have p2:=R1.g HX.out 2 _ rfl;rw[HP.out]at p2;have c3:=R1.eu;have cm:=R1.lt R1.aB.gs;have aU:=R1.lt R1.aB.al;have iv:=ag (A1.alloc (eD o ca cc));clear A1 R1 gE)|(go_at_call 121;refine(jb (af:=af) (F:=F) (m0:=m) (w0:=w) (m:=m) (S:=S) ?_ HM.out).mono ?_;exact iv.out.aI;rintro e wN ⟨rfl,A2⟩;have R2:=A2.bj;clear p2 c3;have d3:=R2.eu;have q2:=R2.g jc.out 2 _ rfl;have fq2:=R2.frozen R2.aB.gs (g*25+2);have A3:=A2.g jc.out {x1 with ae:=34} (q:=2) (v:=I 34);have HT:=ag A3;clear A2 A3 R2));go_ret;exact⟨rfl,m,HT.out⟩
theorem yj(R:bz af F w m S)(aG:Good S)(g:Nat)(x:bI)(hx:S.gs[g]?=some x)(oo:x.ae=30→x.bA.length≤1000000)(o:cu)(ho:dH S g=o)(bO:eX o.ch)(dj:o.cases.length≤1000)(hk:o.ai=9)(cM:o.cases≠[])(S2:Wd)(hm:(x.ae=25∧uE S g o=some S2)∨(x.ae=27∧jJ S g o=some S2)∨(x.ae=28∧ju S g o=some S2)∨(x.ae=29∧gK S g o=some S2)):Calls prog 64 #[bR F,I g] w (oV (To af F m w S2)):=by
 have eM:=cA hx;have HR:=ag (At.refl R);have QQ:=ag R;have oz:(o.ai !=9)=false:=by rw[hk];rfl
 rcases hm with⟨hp,hm⟩|⟨hp,hm⟩|⟨hp,hm⟩|⟨hp,hm⟩
 all_goals
  obtain⟨HX,HO,HP,ie⟩:=ia hx ho hp aG;have MR:Hid (∀x,S.gs[g]?=some x→x.ae=30→x.bA.length≤1000000):=fun y hy=>by rw[hx]at hy;cases hy;exact oo
  obtain⟨HM,NA⟩:=dA hm cM;clear R hx ho hp hk aG oo hm cM;unfold bR;go_enter func64,ntmps64;go_wp2_with (first|(go_at_call 92;refine(dw HR.out g HX.out HO.out dj).mono ?_;rintro e w1 ⟨⟨cv,rfl,gE⟩,A1⟩;obtain⟨nb,cap,ob,rfl,fP,X1⟩:=gE.block A1 QQ.out cG NA.out;have R1:=A1.bj;have p2:=R1.g HX.out 2 _ rfl;rw[HP.out]at p2;have c3:=R1.eu;have cm:=R1.lt R1.aB.gs;have aU:=R1.lt R1.aB.al;have iv:=ag (X1.alloc (eD o (some ⟨nb,0,none⟩) cap));have KK:=ag fP;clear A1 R1 gE fP X1)|(go_at_call 113;refine(TM (af:=af) (F:=F) (m0:=m) (w0:=w) (m:=m) (S:=S) (L:=[(w1.heap.size,eD o (some ⟨nb,0,none⟩) cap),(nb,ob)]) ?_ ie.out g o dj nb ob (by simp) KK.out cap S2 HM.out).mono ?_;exact iv.out.aI;rintro e wN ⟨rfl,mN,X⟩;have HT:=ag X;clear X)|(go_at_call 115;refine(Gy (af:=af) (F:=F) (m0:=m) (w0:=w) (m:=m) (S:=S) (L:=[(w1.heap.size,eD o (some ⟨nb,0,none⟩) cap),(nb,ob)]) ?_ ie.out g o nb ob (by simp) KK.out cap S2 HM.out).mono ?_;exact iv.out.aI;rintro e wN ⟨rfl,mN,X⟩;have HT:=ag X;clear X)|(go_at_call 116;refine(D1 (af:=af) (F:=F) (m0:=m) (w0:=w) (m:=m) (S:=S) (L:=[(w1.heap.size,eD o (some ⟨nb,0,none⟩) cap),(nb,ob)]) ?_ ie.out g o nb ob (by simp) KK.out cap S2 HM.out).mono ?_;exact iv.out.aI;rintro e wN ⟨rfl,mN,X⟩;have HT:=ag X;clear X)|(go_at_call 117;refine(QP (af:=af) (F:=F) (m0:=m) (w0:=w) (m:=m) (S:=S) (L:=[(w1.heap.size,eD o (some ⟨nb,0,none⟩) cap),(nb,ob)]) ?_ g o nb ob (by simp) KK.out cap S2 HM.out).mono ?_;exact iv.out.aI;rintro e wN ⟨rfl,mN,X⟩;have HT:=ag X;clear X));go_ret;exact⟨rfl,ss HT.out⟩
theorem D3{α:Type}{i:Int}:idx ([]:List α) i=none:=by unfold idx;split<;>simp
theorem Jy(R:bz af F w m S)(aG:Good S)(g:Nat)(oo:∀x,S.gs[g]?=some x→x.ae=30→x.bA.length≤1000000)(fa:∀x,S.gs[g]?=some x→x.ae=28→(dH S g).cases≠[])(S':Wd)(hm:hO S g=some (S',true)):Calls prog 64 #[.pointer (some ⟨F.al,0,none⟩),I g] w (oV (To af F m w S')):=by
 unfold hO at hm;simp only[bW,cI]at hm;obtain⟨o,eK,x,hx,hm⟩:=hm;obtain⟨ho,bO,dj⟩:=nB eK;have oo:=oo x hx;by_cases hk:o.ai≠9
 ·rw[aF hk]at hm
  cases hm
 rw[aE hk]at hm;have hk:o.ai=9:=by omega
 by_cases hp:x.ae=13∨x.ae=17
 ·rw[aF hp]at hm;rcases hp with hp|hp
  ·exact px R aG g x hx oo o ho bO dj hk _ (.inl ⟨hp,hm⟩)
  ·exact px R aG g x hx oo o ho bO dj hk _ (.inr (.inl ⟨hp,hm⟩))
 rw[aE hp]at hm;by_cases hp:x.ae=24
 ·rw[aF hp]at hm;exact px R aG g x hx oo o ho bO dj hk _ (.inr (.inr (.inl ⟨hp,(dS hm).1⟩)))
 rw[aE hp]at hm;by_cases hp:x.ae=25
 ·rw[aF hp]at hm;have hn:=(dS hm).1;by_cases cM:o.cases=[]
  ·exfalso;unfold uE at hn;simp only[iF,cM,D3,bW,Option.bind_none,Option.bind_fun_none,cI,reduceCtorEq,and_false,exists_false,ite_self]at hn
  exact yj R aG g x hx oo o ho bO dj hk cM _ (.inl ⟨hp,hn⟩)
 rw[aE hp]at hm;by_cases hp:x.ae=26
 ·rw[aF hp]at hm;have hn:=(dS hm).1;simp only[cI]at hn;obtain⟨S1,h1,h2⟩:=hn;exact QR R aG g x hx oo o ho bO dj hk hp S1 h1 _ h2
 rw[aE hp]at hm;by_cases hp:x.ae=27
 ·rw[aF hp]at hm;have hn:=(dS hm).1;by_cases cM:o.cases=[]
  ·exfalso;unfold jJ at hn;simp only[iF,cM,D3,bW,Option.bind_none,Option.bind_fun_none,cI,reduceCtorEq,and_false,exists_false,ite_self]at hn
  exact yj R aG g x hx oo o ho bO dj hk cM _ (.inr (.inl ⟨hp,hn⟩))
 rw[aE hp]at hm;by_cases hp:x.ae=28
 ·rw[aF hp]at hm;have hn:=(dS hm).1;have cM:o.cases≠[]:=by rw[←ho];exact fa x hx hp
  exact yj R aG g x hx oo o ho bO dj hk cM _ (.inr (.inr (.inl ⟨hp,hn⟩)))
 rw[aE hp]at hm;by_cases hp:x.ae=29
 ·rw[aF hp]at hm;have hn:=(dS hm).1;by_cases cM:o.cases=[]
  ·exfalso;unfold gK at hn;simp only[iF,cM,D3,bW,Option.bind_none,Option.bind_fun_none,cI,reduceCtorEq,and_false,exists_false,ite_self]at hn
  exact yj R aG g x hx oo o ho bO dj hk cM _ (.inr (.inr (.inr ⟨hp,hn⟩)))
 rw[aE hp]at hm;by_cases hp:x.ae=30
 ·rw[aF hp]at hm;exact px R aG g x hx oo o ho bO dj hk _ (.inr (.inr (.inr (.inr (.inl ⟨hp,(dS hm).1⟩)))))
 rw[aE hp]at hm;by_cases hp:x.ae=14
 ·rw[aF hp]at hm;exact px R aG g x hx oo o ho bO dj hk _ (.inr (.inr (.inr (.inr (.inr (.inl ⟨hp,(dS hm).1⟩))))))
 rw[aE hp]at hm;by_cases hp:x.ae=31
 ·rw[aF hp]at hm;exact px R aG g x hx oo o ho bO dj hk _ (.inr (.inr (.inr (.inl ⟨hp,(dS hm).1⟩))))
 rw[aE hp]at hm;by_cases hp:x.ae=32
 ·rw[aF hp]at hm;exact px R aG g x hx oo o ho bO dj hk _ (.inr (.inr (.inr (.inr (.inr (.inr (.inl ⟨hp,(dS hm).1⟩)))))))
 rw[aE hp]at hm;by_cases hp:x.ae=33
 ·rw[aF hp]at hm;simp only[cI]at hm;obtain⟨⟨S1,fin⟩,h1,hm⟩:=hm
  cases fin with
  |true=>
   simp only[dt]at hm;obtain⟨x1,eE,rfl⟩:=dr (dS hm).1;exact MV R aG g x hx oo o ho bO dj hk hp S1 h1 x1 eE
  |false=>
   simp only[nW,dF,oZ,Prod.mk.injEq,and_true]at hm;subst hm;exact MU R aG g x hx oo o ho bO dj hk hp S1 h1
 rw[aE hp]at hm;by_cases hp:x.ae=34
 ·rw[aF hp]at hm;exact px R aG g x hx oo o ho bO dj hk _ (.inr (.inr (.inr (.inr (.inr (.inr (.inr ⟨hp,(dS hm).1⟩)))))))
 rw[aE hp]at hm
 cases hm
end
section
variable{af g eb:Nat}{F:Fx}{w w0 w':World}{m m0 m':Mem}{S S':Wd}{L:List (Nat×Obj)}
def TB(af:Nat)(F:Fx)(m0:Mem)(w0:World)(S:Wd)(L:List (Nat×Obj))(w:World):Prop:=∃m,AB af F m0 w0 m w S L
theorem TB.av(T:TB af F m0 w0 S L w){f:Nat}{args:Array Value}{S':Wd}{v:Value}(h:∀m,bz af F w m S→Calls prog f args w fun e w'=>e=.returned v∧To af F m w S' w'):Calls prog f args w fun e w'=>e=.returned v∧TB af F m0 w0 S' L w':=by
 obtain⟨m,X⟩:=T;exact(h m X.bj).mono fun e w' ⟨h1,m',h2⟩=>⟨h1,m',X.av h2⟩
theorem TB.same(T:TB af F m0 w0 S L w){f:Nat}{args:Array Value}{v:Value}(h:∀m,bz af F w m S→Calls prog f args w fun e w'=>e=.returned v∧w=w'):Calls prog f args w fun e w'=>e=.returned v∧TB af F m0 w0 S L w':=by
 obtain⟨m,X⟩:=T;exact(h m X.bj).mono fun e w' ⟨h1,h2⟩=>⟨h1,m,h2▸X⟩
theorem TB.heap(T:TB af F m0 w0 S L w)(h1:w'.heap=w.heap)(h2:w'.os=w.os)(h3:w'.tape=w.tape)(h4:w'.output=w.output):TB af F m0 w0 S L w':=by
 obtain⟨m,X⟩:=T;exact⟨m,X.aI h1 h2 h3 h4⟩
structure Cp(S:Wd)(g:Nat):Prop where
 aG:Good S
 o:zP S g
 bA:∀x,S.gs[g]?=some x→x.ae=30→x.bA.length≤1000000
 cs:∀x,S.gs[g]?=some x→x.ae=28→(dH S g).cases≠[]
 ax:S.ax.length≤1000
 av: -1000000000≤S.av∧S.av≤1000000000
theorem AB.GC(X:AB af F m0 w0 m w S L)(n:Int):AB af F m0 w0 m (w.setCell ⟨F.al,2,none⟩ (I n)) {S with av:=n} L:=by
 refine⟨X.at_.av n,fun p hp=>⟨?_,(X.loc p hp).2⟩⟩;rw[fQ _ _ _ _ (fun e=>(X.loc p hp).2 .al (by rw[e];exact X.bj.aB.al))];exact(X.loc p hp).1
def jS(F:Fx)(eb:Nat)(L:List (Nat×Obj)):Prop:=(eb,.cells #[.pointer (some ⟨F.al,0,none⟩)] 78)∈L
theorem jS.cell(h:jS F eb L)(X:AB af F m0 w0 m w S L):w.cell? ⟨eb,0,none⟩=some (.pointer (some ⟨F.al,0,none⟩)):=by
 rw[cr w eb 0 _ _ _ (X.loc _ h).1];rfl
theorem jS.ne(h:jS F eb L)(X:AB af F m0 w0 m w S L):F.al≠eb:=fun e=>(X.loc _ h).2 .al (by rw[←e];exact X.bj.aB.al)
theorem jS.lt(h:jS F eb L)(X:AB af F m0 w0 m w S L):eb<w.heap.size:=(dh (X.loc _ h).1).1
theorem Jz(R:bz af F w m S)(aG:zP S g)(S':Wd)(hm:gh S g=some (S',true)):Calls prog 60 #[.pointer (some ⟨F.al,0,none⟩),I g] w (oV (To af F m w S')):=by
 unfold gh at hm;simp only[bW,cI]at hm;obtain⟨x,hx,hm⟩:=hm;by_cases h0:x.ae=0
 ·rw[aF h0]at hm;exact TQ R aG x hx h0 S' (dS hm).1
 rw[aE h0]at hm;by_cases h1:x.ae=20
 ·rw[aF h1]at hm;exact Qx R aG x hx h1 S' (dS hm).1
 rw[aE h1]at hm;by_cases h2:x.ae=18
 ·rw[aF h2]at hm;exact Qy R x hx h2 S' (dS hm).1
 rw[aE h2]at hm
 cases hm
theorem af5(X:AB af F m0 w0 m w S L)(he:jS F eb L)(jf:bU S.ax g=0)(hn: -1000000000≤S.av∧S.av≤1000000000)(S1:Wd)(Ci:S1={S with av:=S.av+1})(hgo:zP S1 g)(KQ:gh S1 g=some (S',true)):Calls prog 30 #[.pointer (some ⟨eb,0,none⟩),I g] w (oV (TB af F m0 w0 S' L)):=by
 have ec:=he.cell X;have en:=he.ne X;have el:=he.lt X;have R:=X.bj;have c4:=R.nJ;have c2:=R.dM;have f2:=R.frozen R.aB.al 2;have lw:=R.lt R.aB.al;have HB:=ag (gZ R g);rw[jf]at HB;have HT:Hid (TB af F m0 w0 S1 L (w.setCell ⟨F.al,2,none⟩ (I (S.av+1)))):=⟨m,by rw[Ci];exact X.GC _⟩;have HGO:=ag hgo;have T3:=ag KQ;clear X R he jf Ci hgo KQ;go_enter func30,ntmps30;go_wp2_with (first|(go_at_call 50;refine HB.out.mono ?_;rintro e w1 ⟨rfl,rfl⟩)|(go_at_call 60;refine(TB.av (af:=af) (F:=F) (m0:=m0) (w0:=w0) (S:=S1) (L:=L) ?_ (fun m R=>Jz R HGO.out S' T3.out)).mono ?_;exact HT.out.heap rfl rfl rfl rfl;rintro e w60 ⟨rfl,T⟩;have HZ:=ag T;clear T));go_ret;exact⟨rfl,HZ.out⟩
theorem af6(X:AB af F m0 w0 m w S L)(he:jS F eb L)(jf:bU S.ax g=0)(hn: -1000000000≤S.av∧S.av≤1000000000)(S1:Wd)(Ci:S1={S with av:=S.av+1})(x:bI)(Nv:S1.gs[g]?=some x)(EP:x.ae≠0∧x.ae≠20∧x.ae≠18)(o:cu)(IZ:dH S1 g=o)(dj:o.cases.length≤1000)(QS:Good S1)(KQ:jq S1 g=some (S',true)):Calls prog 30 #[.pointer (some ⟨eb,0,none⟩),I g] w (oV (TB af F m0 w0 S' L)):=by
 have ec:=he.cell X;have en:=he.ne X;have el:=he.lt X;have R:=X.bj;have c4:=R.nJ;have c2:=R.dM;have f2:=R.frozen R.aB.al 2;have lw:=R.lt R.aB.al;have HB:=ag (gZ R g);rw[jf]at HB;have HT:Hid (TB af F m0 w0 S1 L (w.setCell ⟨F.al,2,none⟩ (I (S.av+1)))):=⟨m,by rw[Ci];exact X.GC _⟩;have MW:=ag Nv;have W9:=ag EP;have T5:=ag IZ;have Xa:=ag QS;have T3:=ag KQ;clear X R he jf Ci Nv EP IZ QS KQ;go_enter func30,ntmps30;go_wp2_with (first|(go_at_call 50;refine HB.out.mono ?_;rintro e w1 ⟨rfl,rfl⟩)|(go_at_call 60;refine(TB.same (af:=af) (F:=F) (m0:=m0) (w0:=w0) (S:=S1) (L:=L) ?_ (fun m R=>vp R x MW.out W9.out)).mono ?_;exact HT.out.heap rfl rfl rfl rfl;rintro e w60 ⟨rfl,T⟩;have HA:=ag T;clear T)|(go_at_call 61;refine(TB.av (af:=af) (F:=F) (m0:=m0) (w0:=w0) (S:=S1) (L:=L) ?_ (fun m R=>Jk R Xa.out g S' true T3.out)).mono ?_;exact HA.out.heap rfl rfl rfl rfl;rintro e w61 ⟨rfl,T⟩;have HZ:=ag T;clear T));go_ret;exact⟨rfl,HZ.out⟩
theorem af7(X:AB af F m0 w0 m w S L)(he:jS F eb L)(jf:bU S.ax g=0)(hn: -1000000000≤S.av∧S.av≤1000000000)(S1:Wd)(Ci:S1={S with av:=S.av+1})(x:bI)(Nv:S1.gs[g]?=some x)(EP:x.ae≠0∧x.ae≠20∧x.ae≠18)(o:cu)(IZ:dH S1 g=o)(dj:o.cases.length≤1000)(Vf:o.ai≠2∧o.ai≠4)(QS:Good S1)(KQ:jr S1 g=some (S',true)):Calls prog 30 #[.pointer (some ⟨eb,0,none⟩),I g] w (oV (TB af F m0 w0 S' L)):=by
 have ec:=he.cell X;have en:=he.ne X;have el:=he.lt X;have R:=X.bj;have c4:=R.nJ;have c2:=R.dM;have f2:=R.frozen R.aB.al 2;have lw:=R.lt R.aB.al;have HB:=ag (gZ R g);rw[jf]at HB;have HT:Hid (TB af F m0 w0 S1 L (w.setCell ⟨F.al,2,none⟩ (I (S.av+1)))):=⟨m,by rw[Ci];exact X.GC _⟩;have MW:=ag Nv;have W9:=ag EP;have T5:=ag IZ;have Vg:=ag Vf;have Xa:=ag QS;have T3:=ag KQ;clear X R he jf Ci Nv EP IZ Vf QS KQ;go_enter func30,ntmps30;go_wp2_with (first|(go_at_call 50;refine HB.out.mono ?_;rintro e w1 ⟨rfl,rfl⟩)|(go_at_call 60;refine(TB.same (af:=af) (F:=F) (m0:=m0) (w0:=w0) (S:=S1) (L:=L) ?_ (fun m R=>vp R x MW.out W9.out)).mono ?_;exact HT.out.heap rfl rfl rfl rfl;rintro e w60 ⟨rfl,T⟩;have HA:=ag T;clear T)|(go_at_call 61;refine(TB.av (af:=af) (F:=F) (m0:=m0) (w0:=w0) (S:=S1) (L:=L) ?_ (fun m R=>vm R g x MW.out o T5.out dj Vg.out)).mono ?_;exact HA.out.heap rfl rfl rfl rfl;rintro e w61 ⟨rfl,T⟩;have pH:=ag T;clear T)|(go_at_call 62;refine(TB.av (af:=af) (F:=F) (m0:=m0) (w0:=w0) (S:=S1) (L:=L) ?_ (fun m R=>Ju R Xa.out g S' T3.out)).mono ?_;exact pH.out.heap rfl rfl rfl rfl;rintro e w62 ⟨rfl,T⟩;have HZ:=ag T;clear T));go_ret;exact⟨rfl,HZ.out⟩
theorem af8(X:AB af F m0 w0 m w S L)(he:jS F eb L)(jf:bU S.ax g=0)(hn: -1000000000≤S.av∧S.av≤1000000000)(S1:Wd)(Ci:S1={S with av:=S.av+1})(x:bI)(Nv:S1.gs[g]?=some x)(EP:x.ae≠0∧x.ae≠20∧x.ae≠18)(o:cu)(IZ:dH S1 g=o)(dj:o.cases.length≤1000)(Vf:(o.ai≠2∧o.ai≠4)∧(o.ai≠3∧o.ai≠5))(QS:Good S1)(KQ:js S1 g=some (S',true)):Calls prog 30 #[.pointer (some ⟨eb,0,none⟩),I g] w (oV (TB af F m0 w0 S' L)):=by
 have ec:=he.cell X;have en:=he.ne X;have el:=he.lt X;have R:=X.bj;have c4:=R.nJ;have c2:=R.dM;have f2:=R.frozen R.aB.al 2;have lw:=R.lt R.aB.al;have HB:=ag (gZ R g);rw[jf]at HB;have HT:Hid (TB af F m0 w0 S1 L (w.setCell ⟨F.al,2,none⟩ (I (S.av+1)))):=⟨m,by rw[Ci];exact X.GC _⟩;have MW:=ag Nv;have W9:=ag EP;have T5:=ag IZ;have Vg:=ag Vf;have Xa:=ag QS;have T3:=ag KQ;clear X R he jf Ci Nv EP IZ Vf QS KQ;go_enter func30,ntmps30;go_wp2_with (first|(go_at_call 50;refine HB.out.mono ?_;rintro e w1 ⟨rfl,rfl⟩)|(go_at_call 60;refine(TB.same (af:=af) (F:=F) (m0:=m0) (w0:=w0) (S:=S1) (L:=L) ?_ (fun m R=>vp R x MW.out W9.out)).mono ?_;exact HT.out.heap rfl rfl rfl rfl;rintro e w60 ⟨rfl,T⟩;have HA:=ag T;clear T)|(go_at_call 61;refine(TB.av (af:=af) (F:=F) (m0:=m0) (w0:=w0) (S:=S1) (L:=L) ?_ (fun m R=>vm R g x MW.out o T5.out dj Vg.out.1)).mono ?_;exact HA.out.heap rfl rfl rfl rfl;rintro e w61 ⟨rfl,T⟩;have pH:=ag T;clear T)|(go_at_call 62;refine(TB.av (af:=af) (F:=F) (m0:=m0) (w0:=w0) (S:=S1) (L:=L) ?_ (fun m R=>Gw R g x MW.out o T5.out dj Vg.out.2)).mono ?_;exact pH.out.heap rfl rfl rfl rfl;rintro e w62 ⟨rfl,T⟩;have Sz:=ag T;clear T)|(go_at_call 63;refine(TB.av (af:=af) (F:=F) (m0:=m0) (w0:=w0) (S:=S1) (L:=L) ?_ (fun m R=>Jv R Xa.out g S' T3.out)).mono ?_;exact Sz.out.heap rfl rfl rfl rfl;rintro e w63 ⟨rfl,T⟩;have HZ:=ag T;clear T));go_ret;exact⟨rfl,HZ.out⟩
theorem af9(X:AB af F m0 w0 m w S L)(he:jS F eb L)(jf:bU S.ax g=0)(hn: -1000000000≤S.av∧S.av≤1000000000)(S1:Wd)(Ci:S1={S with av:=S.av+1})(x:bI)(Nv:S1.gs[g]?=some x)(EP:x.ae≠0∧x.ae≠20∧x.ae≠18)(o:cu)(IZ:dH S1 g=o)(dj:o.cases.length≤1000)(Vf:(o.ai≠2∧o.ai≠4)∧(o.ai≠3∧o.ai≠5)∧o.ai≠6)(QS:Good S1)(ag0:∀x,S1.gs[g]?=some x→x.ae=30→x.bA.length≤1000000)(ag1:∀x,S1.gs[g]?=some x→x.ae=28→(dH S1 g).cases≠[])(KQ:hO S1 g=some (S',true)):Calls prog 30 #[.pointer (some ⟨eb,0,none⟩),I g] w (oV (TB af F m0 w0 S' L)):=by
 have ec:=he.cell X;have en:=he.ne X;have el:=he.lt X;have R:=X.bj;have c4:=R.nJ;have c2:=R.dM;have f2:=R.frozen R.aB.al 2;have lw:=R.lt R.aB.al;have HB:=ag (gZ R g);rw[jf]at HB;have HT:Hid (TB af F m0 w0 S1 L (w.setCell ⟨F.al,2,none⟩ (I (S.av+1)))):=⟨m,by rw[Ci];exact X.GC _⟩;have MW:=ag Nv;have W9:=ag EP;have T5:=ag IZ;have Vg:=ag Vf;have Xa:=ag QS;have au6:=ag ag0;have au7:=ag ag1;have T3:=ag KQ;clear X R he jf Ci Nv EP IZ Vf QS ag0 ag1 KQ;go_enter func30,ntmps30;go_wp2_with (first|(go_at_call 50;refine HB.out.mono ?_;rintro e w1 ⟨rfl,rfl⟩)|(go_at_call 60;refine(TB.same (af:=af) (F:=F) (m0:=m0) (w0:=w0) (S:=S1) (L:=L) ?_ (fun m R=>vp R x MW.out W9.out)).mono ?_;exact HT.out.heap rfl rfl rfl rfl;rintro e w60 ⟨rfl,T⟩;have HA:=ag T;clear T)|(go_at_call 61;refine(TB.av (af:=af) (F:=F) (m0:=m0) (w0:=w0) (S:=S1) (L:=L) ?_ (fun m R=>vm R g x MW.out o T5.out dj Vg.out.1)).mono ?_;exact HA.out.heap rfl rfl rfl rfl;rintro e w61 ⟨rfl,T⟩;have pH:=ag T;clear T)|(go_at_call 62;refine(TB.av (af:=af) (F:=F) (m0:=m0) (w0:=w0) (S:=S1) (L:=L) ?_ (fun m R=>Gw R g x MW.out o T5.out dj Vg.out.2.1)).mono ?_;exact pH.out.heap rfl rfl rfl rfl;rintro e w62 ⟨rfl,T⟩;have Sz:=ag T;clear T)|(go_at_call 63;refine(TB.av (af:=af) (F:=F) (m0:=m0) (w0:=w0) (S:=S1) (L:=L) ?_ (fun m R=>QK R g x MW.out o T5.out dj Vg.out.2.2)).mono ?_;exact Sz.out.heap rfl rfl rfl rfl;rintro e w63 ⟨rfl,T⟩;have HD1:=ag T;clear T)|(go_at_call 64;refine(TB.av (af:=af) (F:=F) (m0:=m0) (w0:=w0) (S:=S1) (L:=L) ?_ (fun m R=>Jy R Xa.out g au6.out au7.out S' T3.out)).mono ?_;exact HD1.out.heap rfl rfl rfl rfl;rintro e w64 ⟨rfl,T⟩;have HZ:=ag T;clear T));go_ret;exact⟨rfl,HZ.out⟩
end
def uj(S1:Wd)(g:Nat)(S':Wd):Prop:=
 gh S1 g=some (S',true)∨∃x o,S1.gs[g]?=some x∧(x.ae≠0∧x.ae≠20∧x.ae≠18)∧mf S1 g=some o∧
  ((o.ai=2∨o.ai=4)∧jq S1 g=some (S',true)∨(o.ai=3∨o.ai=5)∧jr S1 g=some (S',true)∨o.ai=6∧js S1 g=some (S',true)∨o.ai=9∧hO S1 g=some (S',true))
section
variable{af g eb:Nat}{F:Fx}{w w0 w':World}{m m0 m':Mem}{S S':Wd}{L:List (Nat×Obj)}
theorem GD(X:AB af F m0 w0 m w S L)(he:jS F eb L)(jf:bU S.ax g=0)(hn: -1000000000≤S.av∧S.av≤1000000000)(aG:Cp {S with av:=S.av+1} g)(hm:uj {S with av:=S.av+1} g S'):Calls prog 30 #[.pointer (some ⟨eb,0,none⟩),I g] w (oV (TB af F m0 w0 S' L)):=by
 rcases hm with hm|⟨x,o,hx,hp,eK,hm⟩
 ·exact af5 X he jf hn _ rfl aG.o hm
 obtain⟨ho,bO,dj⟩:=nB eK;rcases hm with⟨hk,hm⟩|⟨hk,hm⟩|⟨hk,hm⟩|⟨hk,hm⟩
 ·exact af6 X he jf hn _ rfl x hx hp o ho dj aG.aG hm
 ·exact af7 X he jf hn _ rfl x hx hp o ho dj (by omega) aG.aG hm
 ·exact af8 X he jf hn _ rfl x hx hp o ho dj (by omega) aG.aG hm
 ·exact af9 X he jf hn _ rfl x hx hp o ho dj (by omega) aG.aG aG.bA aG.cs hm
theorem JA(X:AB af F m0 w0 m w S L)(hb:S.ax.length≤1000):Calls prog 59 #[.pointer (some ⟨F.dB,0,none⟩)] w (vH w (cE S.ax)):=DK X.bj hb
theorem pT(X:AB af F m0 w0 m w S L)(he:jS F eb L)(hb:S.ax.length≤1000):Calls prog 28 #[.pointer (some ⟨eb,0,none⟩)] w (vH w (cE S.ax)):=by
 have ec:=he.cell X;have R:=X.bj;have c4:=R.nJ;have lw:=R.lt R.aB.al;have HB:=ag (JA X hb);clear X R he;go_enter func28,ntmps28;go_wp2_with (go_at_call 59;go_loud (refine HB.out.mono ?_;rintro e w1 ⟨v,rfl,ho,hbb⟩;obtain⟨HO,IX⟩:=dA ho hbb;clear ho hbb));go_ret;exact⟨_,rfl,HO.out,IX.out⟩
theorem JB(X:AB af F m0 w0 m w S L)(he:jS F eb L)(hb:S.ax.length≤1000)(pick:Int)(h0:cE S.ax=[]):Calls prog 25 #[.pointer (some ⟨eb,0,none⟩),I pick] w (eL (I (-1)) (TB af F m0 w0 S L)):=by
 have HX:=ag X;have HB:=ag (pT X he hb);rw[h0]at HB;clear X he h0;go_enter func25,ntmps25;go_wp2_with (go_at_call 28;refine HB.out.mono ?_;rintro e w1 ⟨v,rfl,ho,hbb⟩;obtain⟨a,c,rfl⟩:=qo ho;have IX:=ag hbb;clear ho hbb);go_ret;exact⟨rfl,m,HX.out.below IX.out⟩
theorem zZ(X:AB af F m0 w0 m w S L)(he:jS F eb L)(hb:S.ax.length≤1000)(pick:Int)(hp: -9223372036854775808≤pick∧pick≤9223372036854775807)(l:List Int)(hl:l=cE S.ax)(h0:l≠[])(hg:pA l pick=g)(jf:bU S.ax g=0)(hn: -1000000000≤S.av∧S.av≤1000000000)(aG:Cp {S with av:=S.av+1} g)(hm:uj {S with av:=S.av+1} g S'):Calls prog 25 #[.pointer (some ⟨eb,0,none⟩),I pick] w (eL (I g) (TB af F m0 w0 S' L)):=by
 have HX:=ag X;have HB:=ag (pT X he hb);rw[←hl]at HB;have J8:l.length≤1000:=by rw[hl];have:=xg S.ax 0;unfold cE;omega
 have hpos:0<l.length:=pd h0;obtain⟨n,hn'⟩:∃n,n=l.length:=⟨_,rfl⟩;obtain⟨i,hi⟩:∃i:Nat,(pick % (n:Int))=i:=pz (Int.emod_nonneg _ (by omega));have kL:i<n:=by have:=Int.emod_lt_of_pos pick (b:=(n:Int)) (by omega);omega
 have hgi:l.getD i 0=g:=by unfold pA at hg;rw[←hn',hi]at hg;simpa using hg
 obtain⟨hN,HG⟩:=dA hn' hgi;have HO:Hid (∀w',AB af F m0 w0 m w' S L→Calls prog 30 #[.pointer (some ⟨eb,0,none⟩),I g] w' fun e w'=>e=.returned (.bool true)∧TB af F m0 w0 S' L w'):=fun w' Y=>GD Y he jf hn aG hm
 have htm:(0≤Int.tmod pick n∧Int.tmod pick n=i)∨(Int.tmod pick n<0∧Int.tmod pick n+n=i):=by
  have h1:=Int.tmod_eq_emod (a:=pick) (b:=(n:Int));have h2:=Int.emod_nonneg pick (b:=(n:Int)) (by omega);have h3:=Int.emod_lt_of_pos pick (b:=(n:Int)) (by omega);rw[hi]at h1;split at h1
  ·left;omega
  ·right;rename_i h;have h4:(n:Int).natAbs=n:=by omega
   omega
 rw[←hn']at J8 hpos;have vN:((n:Int)==0)=false:=by simp;omega
 clear X he h0 hl hg jf aG hm hn' hi hgi;rcases htm with⟨ht1,ht2⟩|⟨ht1,ht2⟩
 ·have dD:decide (Int.tmod pick n<0)=false:=by simp;omega
  have rT:decide ((i:Int)<0)=false:=by simp
  go_enter func25,ntmps25;go_wp2_with (first|(go_at_call 28;refine HB.out.mono ?_;rintro e w1 ⟨v,rfl,ho,hbb⟩;obtain⟨a,c,rfl,jF⟩:=ho.rd (by rw[←hN.out];omega);rw[←hN.out];obtain⟨b,off,rfl,hc⟩:=jF.at i (by rw[←hN.out];exact kL);rw[HG.out]at hc;have IX:=ag hbb;clear ho hbb jF)|(go_at_call 30;refine(HO.out _ (HX.out.below IX.out)).mono ?_;rintro e w2 ⟨rfl,T⟩;have HT:=ag T;clear T));go_ret;exact⟨rfl,HT.out⟩
 ·have dD:decide (Int.tmod pick n<0)=true:=by simpa using ht1
  go_enter func25,ntmps25;go_wp2_with (first|(go_at_call 28;refine HB.out.mono ?_;rintro e w1 ⟨v,rfl,ho,hbb⟩;obtain⟨a,c,rfl,jF⟩:=ho.rd (by rw[←hN.out];omega);rw[←hN.out];obtain⟨b,off,rfl,hc⟩:=jF.at i (by rw[←hN.out];exact kL);rw[HG.out]at hc;have IX:=ag hbb;clear ho hbb jF)|(go_at_call 30;refine(HO.out _ (HX.out.below IX.out)).mono ?_;rintro e w2 ⟨rfl,T⟩;have HT:=ag T;clear T));go_ret;exact⟨rfl,HT.out⟩
end
end Go.Proofs.YtadifmnmfnihdaaGreat
namespace Go.Proofs.YtadifmnmfnihdaaGreat.V
open Mach
structure QT(w w':Wd)(g:Nat)(x:bI):Prop where
 ops:w'.gs.map (·.ops)=w.gs.map (·.ops)
 av:w'.av=w.av+1
 list:w'.list=w.list
 drawn:w.drawn≤w'.drawn∧(w'.drawn≤w.drawn∨w'.drawn≤w.list.length)
 done:w'.done=w.done∨x.ae=18∧w'.done=w.done++[qu x g (w.av+1)]
 au:w.au.length≤w'.au.length
section
variable{w w' w2:Wd}{ls:List (List Nat)}{g z s C:Nat}{x x' xA y:bI}{sd:gn}{o:cu}
theorem JC{k p:Int}(h:bG k p=true)(hk:k=1∨k=7∨k=8)(hp:0≤p∧p≤34):p=0∨p=18∨p=20:=by
 obtain⟨n,rfl⟩:=pz hp.1;have key:∀n:Fin 35,∀k∈([1,7,8]:List Int),bG k ((n:Nat):Int)=true→(n:Nat)=0∨(n:Nat)=18∨(n:Nat)=20:=by decide
 have:=key ⟨n,by omega⟩ k (by simpa using hk) h;simp only at this;omega
theorem QU(I:Inv w ls)(hx:w.gs[g]?=some x)(hs:ea w g)(hd:0≤w.drawn)(Rp:kJ w.drawn=true)(hdn:w.done.length<1000000):∃S' fM,uj {w with av:=w.av+1} g S'∧Inv S' fM∧QT w S' g x:=by
 have I1:Inv {w with av:=w.av+1} ls:=I.same rfl rfl rfl rfl rfl rfl rfl rfl;have eE:({w with av:=w.av+1}:Wd).gs[g]?=some x:=hx;have rh:ea {w with av:=w.av+1} g:=hs;have L:=I.loc g x hx;have kd:∀{w':Wd},wE {w with av:=w.av+1} w'→QT w w' g x:=fun K=>⟨K.ops,K.av,K.list,K.drawn,.inl K.done,K.au⟩
 by_cases p0:x.ae=0
 ·obtain⟨w',a,b,c⟩:=Mp I1 eE rh p0 hd Rp;refine⟨w',ls,.inl ?_,b,kd c⟩;unfold gh;simp only[hx,bW,eN];rw[aF p0];exact nN a
 by_cases yh:x.ae=20
 ·obtain⟨w',a,b,c⟩:=WI I1 eE rh yh;refine⟨w',ls,.inl ?_,b,kd c⟩;unfold gh;simp only[hx,bW,eN];rw[aE p0,aF yh];exact nN a
 by_cases FB:x.ae=18
 ·obtain⟨w',a,b,c1,c2,c3,c4,c5,c6⟩:=F0 I1 eE rh FB hdn;refine⟨w',ls,.inl ?_,b,c1,c2,c3,by rw[c4];exact⟨Int.le_refl _,.inl (Int.le_refl _)⟩,.inr ⟨FB,c5⟩,Nat.le_of_eq c6.symm⟩;unfold gh;simp only[hx,bW,eN];rw[aE p0,aE yh,aF FB];exact nN a
 have J1:x.ae≠19:=fun h=>by obtain⟨t,hb⟩:=hs;have:=(I.st g x 0 t hx hb).2.2.2.2.1 h;omega
 obtain⟨ho,hR⟩:=pj I1 eE p0;have hk:=hR.k;have pM:=L.kp p0;have kM:=L.pl;have au8:(aP x).ai=1∨(aP x).ai=7∨(aP x).ai=8→False:=fun h=>by have:=JC pM h kM;omega
 have fin:∀{w':Wd} {fM:List (List Nat)},Inv w' fM→bK {w with av:=w.av+1} w'→uj {w with av:=w.av+1} g w'→∃S' fM,uj {w with av:=w.av+1} g S'∧Inv S' fM∧QT w S' g x:=fun b c d=>⟨_,_,d,b,kd c.d⟩
 have hp:x.ae≠0∧x.ae≠18∧x.ae≠19∧x.ae≠20:=⟨p0,FB,J1,yh⟩
 have kk:((aP x).ai=2∨(aP x).ai=4)∨((aP x).ai=3∨(aP x).ai=5)∨(aP x).ai=6∨(aP x).ai=9:=by
  rcases Classical.em ((aP x).ai=1∨(aP x).ai=7∨(aP x).ai=8)with h|h
  ·exact aX h au8
  ·omega
 rcases kk with k|k|k|k
 ·obtain⟨w',fM,a,b,c⟩:=DO I1 eE rh k hp;exact fin b c (.inr ⟨x,_,eE,⟨p0,yh,FB⟩,ho,.inl ⟨k,a⟩⟩)
 ·obtain⟨w',fM,a,b,c⟩:=DP I1 eE rh k hp;exact fin b c (.inr ⟨x,_,eE,⟨p0,yh,FB⟩,ho,.inr (.inl ⟨k,a⟩)⟩)
 ·obtain⟨w',fM,a,b,c⟩:=DQ I1 eE rh k hp;exact fin b c (.inr ⟨x,_,eE,⟨p0,yh,FB⟩,ho,.inr (.inr (.inl ⟨k,a⟩))⟩)
 ·obtain⟨w',fM,a,b,c⟩:=zw I1 eE rh k hp;exact fin b c (.inr ⟨x,_,eE,⟨p0,yh,FB⟩,ho,.inr (.inr (.inr ⟨k,a⟩))⟩)
end
end Go.Proofs.YtadifmnmfnihdaaGreat.V
namespace Go.Proofs.YtadifmnmfnihdaaGreat
open Go.RowKit Mach Go.Proofs.Tryz
structure T6(N:Nat)(P:Nat→Wd→Prop):Prop where
 ax:∀k S,P k S→S.ax.length≤1000
 av:∀k S,P k S→ -1000000000≤S.av∧S.av≤1000000000
 who:∀k S g,P k S→g∈cE S.ax→∃j:Nat,g=j∧bU S.ax g=0
 aG:∀k S (g:Nat),P k S→k<N→bU S.ax g=0→Cp {S with av:=S.av+1} g
section
variable{af g eb:Nat}{F:Fx}{w w0 w':World}{m m0 m':Mem}{S S':Wd}{L:List (Nat×Obj)}
theorem vt{l:List Int}(h0:l≠[])(pick:Int):pA l pick∈l:=by
 unfold pA;have hpos:0<l.length:=pd h0;have h2:=Int.emod_nonneg pick (b:=(l.length:Int)) (by omega);have h3:=Int.emod_lt_of_pos pick (b:=(l.length:Int)) (by omega);rw[yk,fv (by omega)];exact List.getElem_mem _
theorem MX{N:Nat}{P:Nat→Wd→Prop}(G:T6 N P)(T:TB af F m0 w0 S L w)(he:jS F eb L){k:Nat}(hP:P k S)(hk:k<N)(pick:Int)(hp: -9223372036854775808≤pick∧pick≤9223372036854775807)(h0:cE S.ax≠[])(hs:∀g:Nat,pA (cE S.ax) pick=g→∃S',uj {S with av:=S.av+1} g S'∧P (k+1) S'):∃(g:Nat) (S':Wd),pA (cE S.ax) pick=g∧P (k+1) S'∧Calls prog 25 #[.pointer (some ⟨eb,0,none⟩),I pick] w (eL (I g) (TB af F m0 w0 S' L)):=by
 obtain⟨m,X⟩:=T;obtain⟨g,hg,jf⟩:=G.who k S _ hP (vt h0 pick);rw[hg]at jf;obtain⟨S',h1,h2⟩:=hs g hg;exact⟨g,S',hg,h2,zZ X he (G.ax k S hP) pick hp _ rfl h0 hg jf (G.av k S hP) (G.aG k S g hP hk jf) h1⟩
theorem MY{N:Nat}{P:Nat→Wd→Prop}(G:T6 N P)(T:TB af F m0 w0 S L w)(he:jS F eb L)(hP:P 0 S)(zs:List Int)(n:Nat)(hn:n=zs.length)(hN:n≤N)(hN2:n≤1000000)(a:Option Addr)(c:Nat)(hz:∀z∈zs,-9223372036854775808≤z∧z≤9223372036854775807)(jF:∀W:World,(∀p∈L,W.heap[p.1]?=some p.2)→Rd .i64 W a zs)(hs:∀k S z,P k S→zs[k]?=some z→cE S.ax≠[]→∀g:Nat,pA (cE S.ax) z=g→∃S',uj {S with av:=S.av+1} g S'∧P (k+1) S'):Calls prog 9 #[.pointer (some ⟨eb,0,none⟩),.slice a n c] w fun e w'=>(∃q,e=.returned (I q))∧∃k S',P k S'∧(k=n∨cE S'.ax=[])∧TB af F m0 w0 S' L w':=by
 have HE:Hid (∀k S w z,P k S→zs[k]?=some z→cE S.ax≠[]→TB af F m0 w0 S L w→∃(g:Nat) (S':Wd),pA (cE S.ax) z=g∧P (k+1) S'∧Calls prog 25 #[.pointer (some ⟨eb,0,none⟩),I z] w (eL (I g) fun w'=>TB af F m0 w0 S' L w')):=by
  intro k S w z h1 h2 h0 T;have hk:k<n:=by rw[hn];exact(cA h2)
  exact MX G T he h1 (by omega) z (hz z (lf h2)) h0 (hs k S z h1 h2 h0)
 have HE0:Hid (∀k S w z,P k S→cE S.ax=[]→TB af F m0 w0 S L w→Calls prog 25 #[.pointer (some ⟨eb,0,none⟩),I z] w fun e w'=>e=.returned (I (-1))∧TB af F m0 w0 S L w'):=fun k S w z h1 h0 ⟨m,X⟩=>JB X he (G.ax k S h1) z h0
 have HN:=ag hn;have CZ:Hid (∀S w,TB af F m0 w0 S L w→Rd .i64 w a zs):=fun S w ⟨m,X⟩=>jF w fun p hp=>(X.loc p hp).1
 have HP:Hid (∃S',P 0 S'∧TB af F m0 w0 S' L w):=⟨S,hP,T⟩;clear G T he hP hn hz jF hs;go_enter func9,ntmps9;go_wp2;go_loopw [9] (fun q wr=>∃j:Nat,q=.int .i64 j∧j≤n∧Hid (∃S',P j S'∧TB af F m0 w0 S' L wr)) (fun q _=>n-(intOf q).toNat)
 case atStart=>exact⟨0,rfl,by omega,HP⟩
 case round=>
  clear HP;obtain⟨j,rfl,hj,HP⟩:=hrel;by_cases dD:j<n
  ·obtain⟨S1,hP1,hT1⟩:=HP.out;obtain⟨b,off,rfl,hc⟩:=(CZ.out S1 wr hT1).at j (by rw[←HN.out];exact dD);obtain⟨z,hz⟩:=dC (zs.getD j 0);rw[←hz]at hc;have V3:zs[j]?=some z:=by rw[hz,yk,fv (by rw[←HN.out];exact dD)];rfl
   by_cases h0:cE S1.ax=[]
   ·have HC:=ag (HE0.out j S1 wr z hP1 h0 hT1);have HPE:=ag hP1;have H0:=ag h0;clear HP hP1 hT1 hz V3 h0;go_wp2_with (go_at_call 25;refine HC.out.mono ?_;rintro e w2 ⟨rfl,T⟩;have HT:=ag T;clear T);go_ret;exact⟨⟨_,rfl⟩,j,S1,HPE.out,.inr H0.out,HT.out⟩
   ·obtain⟨g,S2,hg,hP2,hC⟩:=HE.out j S1 wr z hP1 V3 h0 hT1;have HC:=ag hC;have hg0:decide ((g:Int)<0)=false:=(by simp);have En:=ag hP2;clear HP hP1 hT1 hz V3 h0 hC hg hP2;go_wp2_with (go_at_call 25;refine HC.out.mono ?_;rintro e w2 ⟨rfl,T⟩;have HPN:Hid (∃S',P (j+1) S'∧TB af F m0 w0 S' L w2):=⟨S2,En.out,T⟩;clear T);go_roundw
    case rel=>exact⟨j+1,by go_num,by omega,HPN⟩
    case measure=>simp[intOf];omega
  ·obtain rfl:j=n:=by omega
   go_wp2;go_ret;obtain⟨S1,h1,h2⟩:=HP.out;exact⟨⟨_,rfl⟩,j,S1,h1,.inl rfl,h2⟩
end
end Go.Proofs.YtadifmnmfnihdaaGreat
namespace Go.Proofs.YtadifmnmfnihdaaGreat.V
open Mach
section
variable{w w' w2:Wd}{ls:List (List Nat)}{g z s C:Nat}{x x' xA y:bI}{sd:gn}{o:cu}
theorem GF(I:Inv w ls)(hx:w.gs[g]?=some x):x.wakes.length≤8:=by
 have:=jy 8 (x.wakes.map fun z=>z.toNat) ?_ ?_
 ·rw[ko]at this;exact this
 ·refine List.pairwise_map.2 ((I.pg g x hx).imp_of_mem fun {a b} ha hb G3 e=>?_);obtain⟨j,_,_,rfl,_⟩:=I.jn g x a hx ha;obtain⟨k,_,_,rfl,_⟩:=I.jn g x b hx hb;exact G3 (by simp only[oU]at e;rw[e])
 ·intro y hy;obtain⟨z,hz,rfl⟩:=List.mem_map.1 hy;obtain⟨j,u,_,rfl,hu,_⟩:=I.jn g x z hx hz;have:=cA hu;have:=I.n8;simp only[oU];omega
theorem T7(I:Inv w ls):Good w:=
 ⟨I.ar.ok,I.ar.aC,fun i r h=>I.au r (lf h),fun g x h=>by have:=GF I h;omega,I.aO⟩
theorem QV(I:Inv w ls)(hl:∀v∈w.list,0≤v∧v≤65535)(hd:0≤w.drawn∧w.drawn≤100000)(jf:eX w.av):Cp w g:=by
 refine⟨T7 I,⟨I.aq,I.aO,hl,hd,fun x hx hp=>?_,fun x hx hp=>?_⟩,fun x hx hp=>?_,fun x hx hp=>?_,?_,jf⟩
 ·have L:=I.loc g x hx;refine⟨L.JY.1,?_⟩;by_cases h:x.at_<x.ops.length
  ·rw[qd hx];exact .inl (L.ops _ (DI L.JY.1 h)).k
  ·exact .inr (by omega)
 ·have L:=I.loc g x hx;have pM:=L.kp (by omega);rw[qd hx];rw[hp]at pM;have:((aP x).ai=1∨(aP x).ai=7)∨(aP x).ai=8:=by simpa[bG]using pM
  omega
 ·have L:=I.loc g x hx;by_cases hk:(aP x).ai=9
  ·obtain⟨a,b,c⟩:=L.oW hk (by omega) (by omega) (by omega) (by omega);have hR:=L.ops _ (DI L.JY.1 (L.Uy (by omega)));have:=hR.cl;by_cases hn:x.ae=24∨x.ae=25∨x.ae=26∨x.ae=27∨(x.ae=30∧(x.res.aJ=1∨x.res.aJ=2∨x.res.aJ=3))
   ·rw[c.none_ hn];simp
   ·have:=c.len hn;omega
  ·rw[L.yC hk];simp
 ·have L:=I.loc g x hx;have pM:=L.kp (by omega);rw[hp]at pM;have hk:(aP x).ai=9:=by simpa[bG]using pM
  obtain⟨a,b,c⟩:=L.oW hk (by omega) (by omega) (by omega) (by omega);rw[qd hx];intro e;obtain⟨i,l,hi⟩:=List.exists_cons_of_ne_nil a.ne;obtain⟨_,cs,hc,_⟩:=a.ord i (by rw[hi];simp);rw[e]at hc;simp at hc
 ·have:=I.ax;have:=I.n8;omega
end
structure z8(p:List (List cu)):Prop where
 len:p.length≤8
 row:∀l∈p,l.length≤16
 ops:∀l∈p,∀o∈l,Vz o
def uk(p:List (List cu))(C:Nat)(m:Ex):Prop:=
 ∃(g j:Nat) (l:List cu) (o:cu),m.g=g∧m.op=j∧p[g]?=some l∧l[j]?=some o∧(o.ai≠9→m.res.case= -1∧m.fire= -1)∧
  (o.ai=9→(m.res.aJ=1∨m.res.aJ=3)∧m.fire=m.res.case∧0≤m.res.case∧(∃c,o.cases[m.res.case.toNat]?=some c∧1≤c.ch∧c.ch≤C∧(m.res.aJ=3→c.cF=true))∨
   m.res.aJ=2∧o.dG=true∧m.res.case= -1∨m.res.aJ=6∧o.dG=false∧m.point=0)
def jQ(l:List cu):bI:={ops:=l,aN:= -1,bY:= -1,br:= -1,bF:= -1,fire:= -1,res:={case:= -1}}
def gj(p:List (List cu))(N:Nat)(most:Int)(draws:List Int):Wd:=
 {dV:=N,eT:=most,av:=0,gs:=p.map jQ,ax:=List.replicate p.length (0,false),au:=[],aO:=[],aq:=[],aw:={aS:=List.replicate N {},bM:=List.replicate 16 {}},
  ah:=List.replicate N {},ar:={size:=N,most:=most,aC:=List.replicate p.length [],aK:=[],cO:=0,bV:=List.replicate N false},list:=draws,drawn:=0,draws:=draws,done:=[]}
structure Row(p:List (List cu))(draws:List Int)(k:Nat)(S:Wd):Prop where
 inv:∃ls,Inv S ls
 av:S.av=k
 most:k≤900000
 drawn:0≤S.drawn∧S.drawn≤draws.length
 list:S.list=draws
 ops:S.gs.map (·.ops)=p
 len:S.done.length≤k
 marks:∀m∈S.done,uk p S.au.length m
section
variable{w w' w2 S S':Wd}{ls:List (List Nat)}{g z s C k:Nat}{x x' xA y:bI}{sd:gn}{o:cu}{p:List (List cu)}{draws:List Int}
theorem uk.more{C':Nat}{m:Ex}(h:uk p C m)(hC:C≤C'):uk p C' m:=by
 obtain⟨g,j,l,o,h1,h2,h3,h4,h5,h6⟩:=h;refine⟨g,j,l,o,h1,h2,h3,h4,h5,fun hk=>?_⟩;rcases h6 hk with⟨a,b,c,d,e,f,g,h⟩|h
 ·exact .inl ⟨a,b,c,d,e,f,by omega,h⟩
 ·exact .inr h
theorem QW{l:List cu}(hl:l.length≤16)(ho:∀o∈l,Vz o):Loc C (jQ l):=by
 refine{JY:=⟨Int.le_refl 0,?_,hl⟩,ops:=ho,Uy:=fun h=>aX rfl h,kp:=fun h=>aX rfl h,pl:=⟨by simp[jQ],by simp[jQ]⟩,begin:=fun _=>⟨rfl,rfl,rfl,rfl,rfl,rfl,rfl,rfl,rfl,rfl⟩,cZ:=fun _ h=>aX rfl h,oW:=fun _ h=>aX rfl h,ready:=fun h=>by simp[jQ]at h,uP:=fun _ _ _ _ _=>rfl,bY:=fun _ h=>by simp[jQ]at h,tI:=fun _=>rfl,yC:=fun _=>rfl,rest:=fun _ _ s h=>by simp[jQ]at h,br:=fun h=>by simp[aT,bm,jQ]at h,aN:=⟨by simp[jQ],fun _=>rfl⟩,plain:=fun _=>⟨rfl,rfl,rfl⟩,cO:=fun _ h=>by simp[jQ]at h,hand:=fun h=>by simp[jQ]at h,BE:=fun _ h=>by simp[jQ]at h,bk:=fun _=>⟨fun h=>?_,fun h=>by simp[jQ]at h⟩,dG:=fun h=>by simp[jQ]at h,res:=fun _ h=>by simp[jQ]at h,num:=by simp[jQ]}
 ·show(0:Int)≤(l.length:Nat);omega
 ·simp[aW,jQ]at h
theorem kA{k:Nat}{l:List Nat}{n:Nat}(h:(List.replicate n ([]:List Nat))[k]?=some l):l=[]:=by
 rw[uA]at h;split at h
 ·simp at h;exact h
 ·cases h
theorem GG(P:z8 p){N:Nat}(hN:N≤64){most:Int}(hm:1≤most∧most≤16)(draws:List Int):Inv (gj p N most draws) (List.replicate 16 []):=by
 have hg:∀(g:Nat) x,(gj p N most draws).gs[g]?=some x→∃l∈p,x=jQ l:=by intro g x h;obtain⟨l,h1,h2⟩:=List.mem_map.1 (lf h);exact⟨l,h1,h2.symm⟩
 have hw:∀{x:bI} {l:List cu},x=jQ l→¬aW x∧¬aT x∧¬bm x∧x.bY= -1∧x.aN= -1∧x.bA=[]∧x.wakes=[]∧x.ae=0:=by rintro x l rfl;simp[aW,aT,bm,jQ]
 refine⟨?_,?_,?_,rfl,rfl,?_,?_,?_,?_,?_,?_,?_,?_,?_,?_,?_,?_,?_,?_,?_,?_,?_,?_,?_,?_⟩
 ·simp[gj];exact P.len
 ·simp[gj]
 ·simp[gj]
 ·simp[gj]
 ·simp[gj];exact hN
 ·simp[gj]
 ·simp
 ·refine⟨⟨hm.1,hm.2,Int.le_refl 0,?_,?_,?_,?_,?_,?_,?_⟩,?_,?_,?_,?_,?_,?_,?_⟩
  ·simp[gj]
  ·simp[gj]
  ·simp[gj];exact hN
  ·simp[gj]
  ·intro c hc;simp[gj]at hc;rw[hc.2];simp
  ·simp[gj]
  ·intro c hc;simp[gj]at hc;rw[hc.2];simp
  ·simp[gj]
  ·simp[gj]
  ·simp[gj]
  ·intro c hc;simp[gj]at hc;rw[hc.2];simp[gj];omega
  ·simp[gj]
  ·intro x hx;simp[gj]at hx
  ·intro y _ h;have h:y<N:=by simpa[gj]using h
   show(List.replicate N false)[y]?=some false;rw[uA,aF h]
 ·refine⟨by simp[gj],?_,?_,?_,?_⟩
  ·intro k l h;have e:=kA h;subst e;have hk:k<16:=by have:=cA h;simpa using this
   show(List.replicate 16 ({}:Ct))[k]?=_;rw[uA,aF hk];rfl
  ·intro k a b x h;have e:=kA h;simp at e
  ·intro x t h _;have h:(List.replicate N ({}:nf))[x]?=some t:=h;rw[uA]at h;split at h
   ·exact(mx h).symm
   ·cases h
  ·intro k l h;rw[kA h];simp
 ·intro g x h;obtain⟨l,h1,rfl⟩:=hg g x h;exact QW (P.row l h1) (P.ops l h1)
 ·intro c h hc;simp[gj]at hc
 ·intro s sd h hl;have h:(List.replicate N ({}:gn))[s]?=some sd:=h;rw[uA]at h;split at h
  ·rw[←mx h]at hl;simp at hl
  ·cases h
 ·intro g x s h e;obtain⟨l,h1,h2⟩:=hg g x h;obtain⟨a1,a2,a3,a4,a5,a6,a7,a8⟩:=hw h2;omega
 ·intro g x i s h e;obtain⟨l,h1,h2⟩:=hg g x h;obtain⟨a1,a2,a3,a4,a5,a6,a7,a8⟩:=hw h2;rw[a6]at e;simp at e
 ·intro k l s h hs;rw[kA h]at hs;simp at hs
 ·intro g x h e;obtain⟨l,h1,h2⟩:=hg g x h;exact aX e (hw h2).2.2.1
 ·intro g x h e;obtain⟨l,h1,h2⟩:=hg g x h;exact aX e (hw h2).2.1
 ·intro g x g' x' s s' sd sd' h e;obtain⟨l,h1,h2⟩:=hg g x h;exact aX e (hw h2).2.1
 ·intro g x s h e;obtain⟨l,h1,h2⟩:=hg g x h;obtain⟨a1,a2,a3,a4,a5,a6,a7,a8⟩:=hw h2;omega
 ·intro g x s t h hb;obtain⟨l,h1,h2⟩:=hg g x h;obtain⟨a1,a2,a3,a4,a5,a6,a7,a8⟩:=hw h2;have hb:(List.replicate p.length ((0:Int),false))[g]?=some (s,t):=hb;rw[uA]at hb;split at hb
  ·simp at hb;obtain⟨rfl,rfl⟩:=hb;refine⟨by omega,by omega,by simp,by omega,by omega,by omega,by omega⟩
  ·cases hb
 ·intro g x z h e;obtain⟨l,h1,h2⟩:=hg g x h;rw[(hw h2).2.2.2.2.2.2.1]at e;simp at e
 ·intro g x h;obtain⟨l,h1,h2⟩:=hg g x h;rw[(hw h2).2.2.2.2.2.2.1];simp
 ·intro g x g' x' z h _ e;obtain⟨l,h1,h2⟩:=hg g x h;rw[(hw h2).2.2.2.2.2.2.1]at e;simp at e
theorem GH(P:z8 p){N:Nat}(hN:N≤64){most:Int}(hm:1≤most∧most≤16)(draws:List Int):Row p draws 0 (gj p N most draws):=by
 refine⟨⟨_,GG P hN hm draws⟩,rfl,by omega,⟨Int.le_refl 0,?_⟩,rfl,?_,Nat.le_refl 0,fun m h=>by simp[gj]at h⟩
 ·show(0:Int)≤draws.length;omega
 ·show(p.map jQ).map (·.ops)=p;rw[List.map_map];conv=>rhs;rw[←List.map_id p]
  rfl
theorem T8(I:Inv w ls)(hx:w.gs[g]?=some x)(hp:x.ae=18)(ho:w.gs.map (·.ops)=p)(re:Int):uk p w.au.length (qu x g re):=by
 have L:=I.loc g x hx;have h1:=L.Uy (by omega);have h0:=L.JY;obtain⟨j,hj⟩:=pz h0.1;have kM:p[g]?=some x.ops:=by rw[←ho,na,hx];rfl
 have hoj:x.ops[j]?=some (aP x):=by unfold aP idx;rw[aF h0.1,hj];simp only[oU];obtain⟨o,ho⟩:∃o,x.ops[j]?=some o:=⟨_,fv (by omega)⟩;rw[ho];rfl
 refine⟨g,j,x.ops,aP x,rfl,hj,kM,hoj,fun hk=>⟨(L.plain hk).2.1,(L.plain hk).1⟩,fun hk=>?_⟩;have R:=L.res hk (by omega);unfold cV at R;exact R
theorem Row.next(R:Row p draws k S)(hd:draws.length≤100000)(hk:k<900000)(hr:bU S.ax g=0):∃S',uj {S with av:=S.av+1} g S'∧Row p draws (k+1) S':=by
 obtain⟨⟨ls,I⟩,h1,h2,h3,h4,h5,h6,h7⟩:=R
 have hb:g<S.ax.length:=by
  rcases Nat.lt_or_ge g S.ax.length with h|h
  ·exact h
  ·unfold bU idx at hr;rw[aF (by omega)]at hr;simp only[oU]at hr;rw[rq h]at hr;simp at hr
 have Ro:=I.ax;have hx:S.gs[g]?=some (S.gs[g]'(by omega)):=fv (by omega);obtain⟨S',fM,a,b,c⟩:=QU I hx (SF hr hb) h3.1 (by unfold kJ;simp;omega) (by omega);refine⟨S',a,⟨fM,b⟩,by rw[c.av,h1];omega,by omega,?_,c.list.trans h4,c.ops.trans h5,?_,?_⟩
 ·have:=c.drawn;rw[h4]at this;omega
 ·rcases c.done with e|⟨_,e⟩
  ·rw[e];omega
  ·rw[e,py];simp;omega
 ·intro m hm;rcases c.done with e|⟨hp,e⟩
  ·rw[e]at hm;exact(h7 m hm).more c.au
  ·rw[e]at hm;rcases List.mem_append.1 hm with hm|hm
   ·exact(h7 m hm).more c.au
   ·rw[List.mem_singleton.1 hm];exact(T8 I hx hp h5 _).more c.au
theorem sF:∀(b:List (Int×Bool)) (i:Nat) (g:Int),g∈eY i b→∃j:Nat,g=((i+j:Nat):Int)∧∃t,b[j]?=some (0,t)
 | [],i,g,h=>by simp[eY]at h
 |(st,t)::l,i,g,h=>by
  unfold eY at h;split at h
  ·rename_i h0;rcases iL.1 h with h|h
   ·exact⟨0,by simpa using h,t,by simp[h0]⟩
   ·obtain⟨j,a,b⟩:=sF l (i+1) g h;exact⟨j+1,by rw[a];congr 1;omega,by simpa using b⟩
  ·obtain⟨j,a,b⟩:=sF l (i+1) g h;exact⟨j+1,by rw[a];congr 1;omega,by simpa using b⟩
theorem sG{b:List (Int×Bool)}{g:Int}(h:g∈cE b):∃j:Nat,g=j∧bU b g=0:=by
 obtain⟨j,a,t,e⟩:=sF b 0 g h;have a:g=(j:Int):=by simpa using a
 subst a;refine⟨j,rfl,?_⟩;unfold bU idx;rw[aF (by omega)];simp[e]
theorem au9(p:List (List cu))(draws:List Int)(hl:draws.length≤100000)(hd:∀v∈draws,0≤v∧v≤65535):T6 900000 (Row p draws):=by
 refine⟨fun k S R=>?_,fun k S R=>?_,fun k S g R h=>sG h,fun k S g R hk hg=>?_⟩
 ·obtain⟨ls,I⟩:=R.inv;have:=I.ax;have:=I.n8;omega
 ·have:=R.av;have:=R.most;omega
 ·obtain⟨ls,I⟩:=R.inv;have h3:=R.drawn;have h1:=R.av;exact QV (ls:=ls) (I.same rfl rfl rfl rfl rfl rfl rfl rfl) (by show ∀v∈S.list,_;rw[R.list];exact hd) ⟨h3.1,by show S.drawn≤100000;omega⟩ ⟨by show _≤S.av+1;omega,by show S.av+1≤_;omega⟩
end
end Go.Proofs.YtadifmnmfnihdaaGreat.V
namespace Go.Proofs.YtadifmnmfnihdaaGreat
open Go.RowKit Mach
def sH(N n nd:Nat)(most:Int)(draws:List Int)(wb bB gB bL gL bS bD gD:Nat)(dd:Option Nat)(dc:Nat)(bP gP qP bQ gQ qQ:Nat):bH→Option oJ
 | .al=>some (some wb,0,[I N,I most,I 0,.slice none 0 0,.pointer (some ⟨bB,0,none⟩),.slice none 0 0,.slice none 0 0,.pointer (some ⟨bL,0,none⟩),.pointer (some ⟨bQ,0,none⟩),.slice (some ⟨bS,0,none⟩) N N,
   .pointer (some ⟨bP,0,none⟩),.pointer (some ⟨bD,0,none⟩),Value.slice (UH dd) nd dc,.slice none 0 0])
 | .dB=>some (some bB,0,[.slice (some ⟨gB,0,none⟩) n n])
 | .ax=>some (some gB,n,bT ry 0 (List.replicate n (0,false)))
 | .dY=>some (some bL,0,[.slice (some ⟨gL,0,none⟩) 0 0])
 | .dQ=>some (some gL,0,[])
 | .ah=>some (some bS,N,bT mg 0 (List.replicate N {}))
 | .gN=>some (some bD,0,[.slice (some ⟨gD,0,none⟩) nd nd,I 0])
 | .list=>some (some gD,nd,draws.map U)
 | .draws=>some (dd,dc,draws.map U)
 | .ar=>some (some bP,0,[I N,I most,.slice (some ⟨gP,0,none⟩) n n,.slice none 0 0,I 0,.slice (some ⟨qP,0,none⟩) N N])
 | .aC=>some (some gP,n,List.replicate n (.slice none 0 0))
 | .bV=>some (some qP,N,(List.replicate N false).map B)
 | .aw=>some (some bQ,0,[.slice (some ⟨gQ,0,none⟩) N N,.slice (some ⟨qQ,0,none⟩) 16 16])
 | .aS=>some (some gQ,N,bT oD 0 (List.replicate N {}))
 | .bM=>some (some qQ,16,bT rG 0 (List.replicate 16 {}))
 |_=>none
theorem Aa{α β:Type}(f:Nat→β→List Value)(g:α→β):∀(l:List α) (i:Nat),bT f i (l.map g)=bT (fun i x=>f i (g x)) i l
 | [],_=>rfl
 |x::l,i=>by simp only[List.map_cons,bT,Aa f g l (i+1)]
theorem Ab{α:Type}(f:Nat→α→List Value)(v:Value)(a:α)(h:∀i,f i a=[v]):∀(n i:Nat),bT f i (List.replicate n a)=List.replicate n v
 |0,_=>rfl
 |n+1,i=>by simp only[List.replicate_succ,bT,h,Ab f v a h n (i+1),List.singleton_append]
def oS:bH→bH ⊕ CK
 | .ops g=> .inr (some (.ops g))
 | .cases g j=> .inr (some (.cases g j))
 |r=> .inl r
theorem T9:∀a b,oS a=oS b→a=b:=by
 intro a b h
 cases a<;>cases b<;>simp_all [oS]
theorem Ua{p:List (List cu)}{n N nd:Nat}{most:Int}{draws:List Int}{wb bB gB bL gL bS bD gD:Nat}{dd:Option Nat}{dc bP gP qP bQ gQ qQ:Nat}{lo lo1:Nat}{w0 w w1 w4:World}(hn:n=p.length)(fX:nd=draws.length)(h0:0<n){GI:CK→Option Nat}{GJ:CK→Nat}{cC:CK→List Value}(hC:fY lo1 w1 w4 p n 0 GI GJ cC){ga:Option Addr}{gc:Nat}{aV:bH ⊕ CK→Option Nat}{cap:bH ⊕ CK→Nat}{c:bH ⊕ CK→List Value}(X:rV lo w0 w p (Sum.inl .gs) (Sum.inl .al) (fun i l=>nG (GI (some (.ops i))) l.length (GJ (some (.ops i)))) wb (Sum.elim (fun k=>(sH N n nd most draws wb bB gB bL gL bS bD gD dd dc bP gP qP bQ gQ qQ k).bind (·.1)) GI) (Sum.elim eI Nl) (Sum.elim (fun k=>((sH N n nd most draws wb bB gB bL gL bS bD gD dd dc bP gP qP bQ gQ qQ k).map (·.2.1)).getD 0) GJ) (Sum.elim (fun k=>((sH N n nd most draws wb bB gB bL gL bS bD gD dd dc bP gP qP bQ gQ qQ k).map (·.2.2)).getD []) cC) n ga gc aV cap c)(Et:dd=none→nd=0∧dc=0):∃F m,F.al=wb∧bz lo F w m (V.gj p N most draws):=by
 subst fX
 obtain⟨gb,yp⟩:∃gb,aV (.inl .gs)=some gb:=by
  cases h:aV (.inl .gs) with
  |none=>have:=X.cU;rw[h]at this;simp[nG]at this;omega
  |some g=>exact⟨g,rfl⟩
 have O:=X.own.map oS T9;have hB:∀r:bH,r≠ .gs→aV (.inl r)=(sH N n draws.length most draws wb bB gB bL gL bS bD gD dd dc bP gP qP bQ gQ qQ r).bind (·.1):=fun r h=>(X.N7 (.inl r) (by simpa using h)).1
 have hP:∀r:bH,r≠ .gs→cap (.inl r)=((sH N n draws.length most draws wb bB gB bL gL bS bD gD dd dc bP gP qP bQ gQ qQ r).map (·.2.1)).getD 0:=fun r h=>(X.N7 (.inl r) (by simpa using h)).2
 have xJ:∀r:bH,r≠ .gs→r≠ .al→c (.inl r)=((sH N n draws.length most draws wb bB gB bL gL bS bD gD dd dc bP gP qP bQ gQ qQ r).map (·.2.2)).getD []:=fun r h h2=>X.Sn (.inl r) (by simpa using h) (by simpa using h2)
 have G5:∀k:CK,aV (.inr k)=GI k:=fun k=>(X.N7 (.inr k) (by simp)).1
 have hP2:∀k:CK,cap (.inr k)=GJ k:=fun k=>(X.N7 (.inr k) (by simp)).2
 have YQ:∀k:CK,c (.inr k)=cC k:=fun k=>X.Sn (.inr k) (by simp) (by simp)
 have hg:=X.cU;have mA:=X.row;have hwc:=X.wc;obtain⟨m,hm⟩:∃m:Mem,m=⟨fun r=>aV (oS r),fun r=>cap (oS r)⟩:=⟨_,rfl⟩;have ny:∀r,m.aV r=aV (oS r):=fun r=>by rw[hm]
 have G7:∀r,m.cap r=cap (oS r):=fun r=>by rw[hm]
 have kK:∀r:bH,oS r=.inl r→r≠ .gs→sH N n draws.length most draws wb bB gB bL gL bS bD gD dd dc bP gP qP bQ gQ qQ r=none→∀q,m.cU r q=.slice none 0 0:=fun r h1 h2 h3 q=>by apply Mem.j6;rw[ny,h1,hB r h2,h3];rfl
 have KR:∀(r:bH) (b:Nat),oS r=.inl r→r≠ .gs→(sH N n draws.length most draws wb bB gB bL gL bS bD gD dd dc bP gP qP bQ gQ qQ r).bind (·.1)=some b→m.aV r=some b:=fun r b h1 h2 h3=>by rw[ny,h1,hB r h2,h3]
 have rj:∀(r:bH) (q:Nat),oS r=.inl r→r≠ .gs→((sH N n draws.length most draws wb bB gB bL gL bS bD gD dd dc bP gP qP bQ gQ qQ r).map (·.2.1)).getD 0=q→m.cap r=q:=fun r q h1 h2 h3=>by rw[G7,h1,hP r h2,h3]
 have AP:∀(r:bH) (b q n':Nat),oS r=.inl r→r≠ .gs→(sH N n draws.length most draws wb bB gB bL gL bS bD gD dd dc bP gP qP bQ gQ qQ r).bind (·.1)=some b→((sH N n draws.length most draws wb bB gB bL gL bS bD gD dd dc bP gP qP bQ gQ qQ r).map (·.2.1)).getD 0=q→m.cU r n'=.slice (some ⟨b,0,none⟩) n' q:=fun r b q n' h1 h2 h3 h4=>by rw[Mem.de (KR r b h1 h2 h3),rj r q h1 h2 h4]
 have zD:∀(r:bH) (b:Nat),oS r=.inl r→r≠ .gs→(sH N n draws.length most draws wb bB gB bL gL bS bD gD dd dc bP gP qP bQ gQ qQ r).bind (·.1)=some b→m.ptr r=.pointer (some ⟨b,0,none⟩):=fun r b h1 h2 h3=>Mem.lz (KR r b h1 h2 h3)
 have hpg:∀i l,p[i]?=some l→p.getD i []=l:=fun i l h=>by rw[yk,h];rfl
 refine⟨{al:=wb,gs:=gb,dB:=bB,ax:=gB,dY:=bL,aw:=bQ,aS:=gQ,bM:=qQ,ah:=bS,ar:=bP,aC:=gP,bV:=qP,gN:=bD},m,rfl,?_⟩
 have jM:∀r,aj m (V.gj p N most draws) r=c (oS r):=by
  intro r;have zd:∀g:Nat,(V.gj p N most draws).gs[g]?=(p[g]?).map V.jQ:=fun g=>na ..
  cases r with
  |al=>
   rw[show oS .al=.inl .al from rfl,hwc];have e1:m.cU .gs n=.slice ga n gc:=(by rw[qC,ny,G7];exact hg.symm);have e2:m.cU .draws draws.length=.slice (UH dd) draws.length dc:=(by rw[qC,ny,G7,Sw Et,show oS .draws=.inl .draws from rfl,hB _ (by simp),hP _ (by simp)];rfl);show[I N,I most,I 0,m.cU .gs (p.map V.jQ).length,m.ptr .dB,m.cU .au 0,m.cU .aO 0,m.ptr .dY,m.ptr .aw,m.cU .ah (List.replicate N ({}:gn)).length,m.ptr .ar,m.ptr .gN,m.cU .draws draws.length,m.cU .done 0]=_;rw[ko,←hn,e1,e2,vE,zD .dB bB rfl (by simp) rfl,kK .au rfl (by simp) rfl,kK .aO rfl (by simp) rfl,zD .dY bL rfl (by simp) rfl,zD .aw bQ rfl (by simp) rfl,AP .ah bS N N rfl (by simp) rfl rfl,zD .ar bP rfl (by simp) rfl,zD .gN bD rfl (by simp) rfl,kK .done rfl (by simp) rfl];rfl
  |gs=>
   show bT (gk m) 0 (p.map V.jQ)=_;rw[Aa,show oS .gs=.inl .gs from rfl,mA,hn,List.take_length];refine gX _ fun i l hl=>?_
   show[m.cU (.ops i) l.length,_,_,_,_,_,_,_,_,_,_,_,_,_,_]++_++[m.cU (.aH i) 0,m.cU (.aq i) 0,m.cU (.bA i) 0,m.cU (.wakes i) 0,_]=_;rw[kK (.aH i) rfl (by simp) rfl,kK (.aq i) rfl (by simp) rfl,kK (.bA i) rfl (by simp) rfl,kK (.wakes i) rfl (by simp) rfl,qC,ny,G7,show oS (.ops i)=.inr (some (.ops i))from rfl,G5,hP2];rfl
  |ops g=>
   rw[show oS (.ops g)=.inr (some (.ops g))from rfl,YQ];simp only[aj,zd]
   cases hg:p[g]? with
   |none=>
    rw[hC.own.none_ _ ?_];rfl;have:n≤g:=by rw[hn];exact List.getElem?_eq_none_iff.1 hg
    rcases Nat.lt_or_ge n g with h|h
    ·exact hC.more g h
    ·obtain rfl:g=n:=by omega
     exact hC.YP rfl
   |some l=>
    rw[hC.rows g (by rw[hn];exact fm hg),hpg g l hg];simp only[km];refine gX _ fun q o ho=>?_
    show[_,_,_,_,m.cU (.cases g q) _,_]=[_,_,_,_,_,_];rw[qC,ny,G7,show oS (.cases g q)=.inr (some (.cases g q))from rfl,G5,hP2]
  |cases g j=>
   rw[show oS (.cases g j)=.inr (some (.cases g j))from rfl,YQ];simp only[aj,zd]
   cases hg:p[g]? with
   |none=>
    rw[hC.own.none_ _ (hC.J7 g j ?_)];rfl;have:n≤g:=by rw[hn];exact List.getElem?_eq_none_iff.1 hg
    omega
   |some l=>
    have hgn:g<n:=(by rw[hn];exact fm hg);simp only[km]
    cases ho:l[j]? with
    |none=>
     rw[hC.own.none_ _ (hC.less g j (by rw[hpg g l hg];exact ho))];show(match l[j]? with|some o=>bT fT 0 o.cases|none=>[])=_;rw[ho]
    |some o=>
     rw[hC.rU g j o (.inl hgn) (by rw[hpg g l hg];exact ho)];show(match l[j]? with|some o=>bT fT 0 o.cases|none=>[])=_;rw[ho]
  |dB=>
   rw[show oS .dB=.inl .dB from rfl,xJ _ (by simp) (by simp)];show[m.cU .ax (List.replicate p.length ((0:Int),false)).length]=_;rw[vE,←hn,AP .ax gB n n rfl (by simp) rfl rfl];rfl
  |ax=>
   rw[show oS .ax=.inl .ax from rfl,xJ _ (by simp) (by simp)];show bT ry 0 (List.replicate p.length ((0:Int),false))=_;rw[←hn];rfl
  |dY=>
   rw[show oS .dY=.inl .dY from rfl,xJ _ (by simp) (by simp)];show[m.cU .dQ 0]=_;rw[AP .dQ gL 0 0 rfl (by simp) rfl rfl];rfl
  |aw=>
   rw[show oS .aw=.inl .aw from rfl,xJ _ (by simp) (by simp)];show[m.cU .aS (List.replicate N ({}:nf)).length,m.cU .bM (List.replicate 16 ({}:Ct)).length]=_;rw[vE,vE,AP .aS gQ N N rfl (by simp) rfl rfl,AP .bM qQ 16 16 rfl (by simp) rfl rfl];rfl
  |ar=>
   rw[show oS .ar=.inl .ar from rfl,xJ _ (by simp) (by simp)];show[I N,I most,m.cU .aC (List.replicate p.length ([]:List Int)).length,m.cU .aK 0,I 0,m.cU .bV (List.replicate N false).length]=_;rw[vE,vE,←hn,AP .aC gP n n rfl (by simp) rfl rfl,kK .aK rfl (by simp) rfl,AP .bV qP N N rfl (by simp) rfl rfl];rfl
  |aC=>
   rw[show oS .aC=.inl .aC from rfl,xJ _ (by simp) (by simp)];show bT (je m) 0 (List.replicate p.length ([]:List Int))=_;rw[Ab (je m) (.slice none 0 0) [] (fun i=>by show[m.cU (.cache i) 0]=_;rw[kK (.cache i) rfl (by simp) rfl]),←hn];rfl
  |cache g=>
   rw[show oS (.cache g)=.inl (.cache g)from rfl,xJ _ (by simp) (by simp)];simp only[aj];show(match(List.replicate p.length ([]:List Int))[g]? with|some c=>c.map I|none=>[])=[];rw[uA];split
   ·rename_i h;split at h
    ·cases h;rfl
    ·cases h
   ·rfl
  |gN=>
   rw[show oS .gN=.inl .gN from rfl,xJ _ (by simp) (by simp)];show[m.cU .list draws.length,I 0]=_;rw[AP .list gD draws.length draws.length rfl (by simp) rfl rfl];rfl
  |au=>
   rw[show oS .au=.inl .au from rfl,xJ _ (by simp) (by simp)];rfl
  |aO=>
   rw[show oS .aO=.inl .aO from rfl,xJ _ (by simp) (by simp)];rfl
  |dQ=>
   rw[show oS .dQ=.inl .dQ from rfl,xJ _ (by simp) (by simp)];rfl
  |aS=>
   rw[show oS .aS=.inl .aS from rfl,xJ _ (by simp) (by simp)];rfl
  |bM=>
   rw[show oS .bM=.inl .bM from rfl,xJ _ (by simp) (by simp)];rfl
  |ah=>
   rw[show oS .ah=.inl .ah from rfl,xJ _ (by simp) (by simp)];rfl
  |aK=>
   rw[show oS .aK=.inl .aK from rfl,xJ _ (by simp) (by simp)];rfl
  |bV=>
   rw[show oS .bV=.inl .bV from rfl,xJ _ (by simp) (by simp)];rfl
  |list=>
   rw[show oS .list=.inl .list from rfl,xJ _ (by simp) (by simp)];rfl
  |draws=>
   rw[show oS .draws=.inl .draws from rfl,xJ _ (by simp) (by simp)];rfl
  |done=>
   rw[show oS .done=.inl .done from rfl,xJ _ (by simp) (by simp)];rfl
  |aH g=>
   rw[show oS (.aH g)=.inl (.aH g)from rfl,xJ _ (by simp) (by simp)];simp only[aj,zd]
   cases hg:p[g]? with
   |none=>rfl
   |some l=>rfl
  |aq g=>
   rw[show oS (.aq g)=.inl (.aq g)from rfl,xJ _ (by simp) (by simp)];simp only[aj,zd]
   cases hg:p[g]? with
   |none=>rfl
   |some l=>rfl
  |bA g=>
   rw[show oS (.bA g)=.inl (.bA g)from rfl,xJ _ (by simp) (by simp)];simp only[aj,zd]
   cases hg:p[g]? with
   |none=>rfl
   |some l=>rfl
  |wakes g=>
   rw[show oS (.wakes g)=.inl (.wakes g)from rfl,xJ _ (by simp) (by simp)];simp only[aj,zd]
   cases hg:p[g]? with
   |none=>rfl
   |some l=>rfl
  |eU i=>
   rw[show oS (.eU i)=.inl (.eU i)from rfl,xJ _ (by simp) (by simp)];rfl
  |places i=>
   rw[show oS (.places i)=.inl (.places i)from rfl,xJ _ (by simp) (by simp)];rfl
 refine⟨fun r r' b h1 h2=>O.inj r r' b (by rw[ny]at h1;exact h1) (by rw[ny]at h2;exact h2),fun r b h=>?_,fun r h=>?_,?_⟩
 ·rw[ny]at h;obtain⟨h1,arr,t,a1,a2,a3,a4⟩:=O.lies r b h;rw[jM r,G7];refine⟨h1,arr,t,a1,a2,a3,fun q hq=>a4 q ?_⟩
  cases r<;>simp_all [eI,oS,Nl]
 ·rw[jM r];rw[ny]at h;exact O.none_ r h
 ·refine⟨KR _ _ rfl (by simp) rfl,?_,KR _ _ rfl (by simp) rfl,KR _ _ rfl (by simp) rfl,KR _ _ rfl (by simp) rfl,KR _ _ rfl (by simp) rfl,KR _ _ rfl (by simp) rfl,KR _ _ rfl (by simp) rfl,KR _ _ rfl (by simp) rfl,KR _ _ rfl (by simp) rfl,KR _ _ rfl (by simp) rfl,KR _ _ rfl (by simp) rfl,KR _ _ rfl (by simp) rfl⟩;rw[ny];exact yp
end Go.Proofs.YtadifmnmfnihdaaGreat
