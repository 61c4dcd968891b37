import Derived.Test.YtadifmnmfnihdaaGreatA20
import Derived.Test.YtadifmnmfnihdaaGreatA21
import Derived.Test.YtadifmnmfnihdaaGreatA22
import Derived.Test.YtadifmnmfnihdaaGreatA23
set_option linter.all false
set_option maxRecDepth 100000
set_option maxHeartbeats 40000000
namespace Go.Proofs.YtadifmnmfnihdaaGreat
open Go.RowKit Mach Go.Proofs.Tryz
section
variable{af g:Nat}{F:Fx}{w w0 w':World}{m m0 m':Mem}{S S':Wd}{L:List (Nat×Obj)}
theorem W5(A:At af F m0 w0 m w S)(g:Int):Calls prog 137 #[.pointer (some ⟨F.dB,0,none⟩),I g] w fun e w'=>(∃b,e=.returned (.bool b))∧At af F m0 w0 m w' {S with ax:=(Av S.ax g).1}:=
 (PZ A.bj g).mono fun e w' ⟨h1,h2⟩=>⟨⟨_,h1⟩,A.cont h2⟩
theorem MH(R:bz af F w m S)(g:Nat)(x:bI)(hx:S.gs[g]?=some x)(ks:(x.ops.length:Int)≤x.at_):Calls prog 89 #[bR F,I g] w (ee fun w'=>To af F m w {S with ax:=(Av S.ax g).1} w'):=by
 have eM:=cA hx;have c3:=R.eu;have c4:=R.nJ;obtain⟨a0,c0,Gm⟩:=mE R hx;have p0:=R.g0 hx;rw[Gm]at p0;have p1:=R.g hx 1 _ rfl;have cm:=R.lt R.aB.gs;have aU:=R.lt R.aB.al;obtain⟨n0,vN⟩:=dC (x.ops.length);rw[←vN]at p0;have Qr:decide ((n0:Int)≤x.at_)=true:=bi8
 have HR:=ag (At.refl R);clear R hx Gm vN;unfold bR;go_enter func89,ntmps89;go_wp2_with fail
 go_quiet (fail);go_wp2_with (go_at_call 137;refine(W5 HR.out.aI g).mono ?_;rintro e w1 ⟨⟨b,rfl⟩,A1⟩;have HA:=ag A1;clear A1);refine bodyPost_ret (results_none rfl _ _ _) rfl ?_;exact⟨rfl,_,HA⟩
theorem Jq(R:bz af F w m S)(g:Nat)(x:bI)(hx:S.gs[g]?=some x)(h0:0≤x.at_)(LB:1≤(dH S g).ai∧(dH S g).ai≤9∨(x.ops.length:Int)≤x.at_)(hl:∀v∈S.list,0≤v∧v≤65535)(hd:0≤S.drawn∧S.drawn≤100000)(S':Wd)(hm:jT S g=some S'):Calls prog 89 #[.pointer (some ⟨F.al,0,none⟩),I g] w (ee (To af F m w S')):=by
 unfold jT at hm;simp only[bW,cI,hx,oZ,exists_eq_left']at hm;by_cases ks:(x.ops.length:Int)≤x.at_
 ·rw[aF ks]at hm
  cases hm;exact MH R g x hx ks
 rw[aE ks]at hm;simp only[cI]at hm;obtain⟨o,eK,hm⟩:=hm;obtain⟨ho,bO,dj⟩:=nB eK;rw[ho]at LB;have ui:0≤x.at_∧x.at_<x.ops.length:=oX
 have LB:1≤o.ai∧o.ai≤9:=oX
 have sN:cZ S o.ch=true∨cZ S o.ch=false:=by cases cZ S o.ch<;>simp
 have sp:∀p S',cD (S.ay g {bu x with call:=S.av}) g p=some S'→S'=S.ay g {bu x with call:=S.av,ae:=p}:=by
  intro p S' h;obtain⟨x2,kt,rfl⟩:=Nb h;rw[az hx]at kt
  cases kt;rw[aA]
 by_cases h1:o.ai=1∨o.ai=7∨o.ai=8
 ·rw[aF h1]at hm;have e:=sp _ _ hm;rcases h1 with h|h|h
  ·exact bd8
  ·exact bd8
  ·exact bd8
 rw[aE h1]at hm;by_cases h2:o.ai=2∨o.ai=3
 ·rw[aF h2]at hm;rcases sN with hk|hk
  ·rw[hk,aF rfl]at hm;have e:=sp _ _ hm;rcases h2 with h|h
   ·exact bb6
   ·exact bb6
  ·rw[hk,aE sX]at hm;rcases h2 with h|h
   ·exact KJ R g x hx ui o ho dj hk S' hm (by simp[h])
   ·exact KJ R g x hx ui o ho dj hk S' hm (by simp[h])
 rw[aE h2]at hm;by_cases h3:o.ai=4∨o.ai=5
 ·rw[aF h3]at hm;rcases sN with hk|hk
  ·rw[hk,aF rfl]at hm;have e:=sp _ _ hm;rcases h3 with h|h
   ·exact bb6
   ·exact bb6
  ·rw[hk,aE sX]at hm;rcases h3 with h|h
   ·exact DX R g x hx ui o ho dj _ hk S' hm (by simp[h])
   ·exact DX R g x hx ui o ho dj _ hk S' hm (by simp[h])
 rw[aE h3]at hm;by_cases h4:o.ai=6
 ·rw[aF h4]at hm;rcases sN with hk|hk
  ·rw[hk,aF rfl]at hm;exact pw R g x hx ui o ho dj _ _ hk S' (sp _ _ hm) (by simp[h4])
  ·rw[hk,aE sX]at hm;exact DX R g x hx ui o ho dj _ hk S' hm (by simp[h4])
 rw[aE h4]at hm;have h5:o.ai=9:=oX
 rw[aF h5]at hm;by_cases hc:o.cases=[]
 ·exact Qv R g x hx ui o ho dj h5 _ rfl hl hd S' hm hc
 ·exact Qu R g x hx ui o ho dj h5 _ rfl hl hd S' hm hc
structure zP(S:Wd)(g:Nat):Prop where
 aq:S.aq.length=S.au.length
 aO:S.aO.length=S.au.length
 list:∀v∈S.list,0≤v∧v≤65535
 drawn:0≤S.drawn∧S.drawn≤100000
 begin:∀x,S.gs[g]?=some x→x.ae=0→0≤x.at_∧(1≤(dH S g).ai∧(dH S g).ai≤9∨(x.ops.length:Int)≤x.at_)
 do_:∀x,S.gs[g]?=some x→x.ae=20→(dH S g).ai=1∨(dH S g).ai=7∨(dH S g).ai=8
section
variable(T:To af F m0 w0 S w)(aG:zP S g){x:bI}(hx:S.gs[g]?=some x)
include T aG hx
theorem Qw(hp:x.ae=0){S':Wd}(hm:jT S g=some S'):Calls prog 89 #[.pointer (some ⟨F.al,0,none⟩),I g] w (ee (To af F m0 w0 S')):=by
 obtain⟨m,A⟩:=T;exact(Jq A.bj g x hx (aG.begin x hx hp).1 (aG.begin x hx hp).2 aG.list aG.drawn S' hm).mono fun e w' ⟨h1,m',h2⟩=>⟨h1,m',A.cont h2⟩
theorem af3(hp:x.ae=20){S':Wd}(hm:KZ S g=some S'):Calls prog 90 #[.pointer (some ⟨F.al,0,none⟩),I g] w (ee (To af F m0 w0 S')):=by
 obtain⟨m,A⟩:=T;exact(TJ A.bj aG.aq aG.aO g (aG.do_ x hx hp) S' hm).mono fun e w' ⟨h1,m',h2⟩=>⟨h1,m',A.cont h2⟩
end
theorem MI(T:To af F m0 w0 S w){S':Wd}(hm:mL S g=some S'):Calls prog 91 #[.pointer (some ⟨F.al,0,none⟩),I g] w (ee (To af F m0 w0 S')):=by
 obtain⟨m,A⟩:=T;exact(FN A.bj g S' hm).mono fun e w' ⟨h1,m',h2⟩=>⟨h1,m',A.cont h2⟩
section
variable(R:bz af F w m S)(aG:zP S g)(x:bI)(hx:S.gs[g]?=some x)
include R aG x hx
theorem TQ(hp:x.ae=0)(S':Wd)(hm:jT S g=some S'):Calls prog 60 #[bR F,I g] w (oV (To af F m w S')):=by
 have eM:=cA hx;have c3:=R.eu;have p2:=R.g hx 2 _ rfl;rw[hp]at p2;have cm:=R.lt R.aB.gs;have aU:=R.lt R.aB.al;obtain⟨HR,HX,HP,HM,HG⟩:=jW R.to hx hp hm aG;clear R hx hp hm aG;unfold bR;go_enter func60,ntmps60;go_wp2_with (go_at_call 89;refine(Qw HR HG HX HP HM).mono ?_;rintro e w1 ⟨rfl,T⟩;have HT:=ag T;clear T);go_ret;exact⟨rfl,HT⟩
theorem Qx(hp:x.ae=20)(S':Wd)(hm:KZ S g=some S'):Calls prog 60 #[bR F,I g] w (oV (To af F m w S')):=by
 have eM:=cA hx;have c3:=R.eu;have p2:=R.g hx 2 _ rfl;rw[hp]at p2;have cm:=R.lt R.aB.gs;have aU:=R.lt R.aB.al;obtain⟨HR,HX,HP,HM,HG⟩:=jW R.to hx hp hm aG;clear R hx hp hm aG;unfold bR;go_enter func60,ntmps60;go_wp2_with (go_at_call 90;refine(af3 HR HG HX HP HM).mono ?_;rintro e w1 ⟨rfl,T⟩;have HT:=ag T;clear T);go_ret;exact⟨rfl,HT⟩
end
section
variable(R:bz af F w m S)(x:bI)(hx:S.gs[g]?=some x)
include R x hx
theorem Qy(hp:x.ae=18)(S':Wd)(hm:mL S g=some S'):Calls prog 60 #[bR F,I g] w (oV (To af F m w S')):=by
 have eM:=cA hx;have c3:=R.eu;have p2:=R.g hx 2 _ rfl;rw[hp]at p2;have cm:=R.lt R.aB.gs;have aU:=R.lt R.aB.al;obtain⟨HR,HM⟩:=dA R.to hm;clear R hx hp hm;unfold bR;go_enter func60,ntmps60;go_wp2_with (go_at_call 91;refine(MI HR HM).mono ?_;rintro e w1 ⟨rfl,T⟩;have HT:=ag T;clear T);go_ret;exact⟨rfl,HT⟩
theorem vp(hp:x.ae≠0∧x.ae≠20∧x.ae≠18):Calls prog 60 #[bR F,I g] w (eL (.bool false) fun w'=>w=w'):=by
 have eM:=cA hx;have c3:=R.eu;have p2:=R.g hx 2 _ rfl;have e0:(x.ae==0)=false:=by simpa using hp.1
 have e1:(x.ae==20)=false:=by simpa using hp.2.1
 have e2:(x.ae==18)=false:=by simpa using hp.2.2
 have cm:=R.lt R.aB.gs;have aU:=R.lt R.aB.al;clear R hx hp;unfold bR;go_enter func60,ntmps60;go_wp2_with fail
 go_ret;exact⟨rfl,rfl⟩
end
end
section
variable{af:Nat}{F:Fx}{w w0 w':World}{m m0 m':Mem}{S S':Wd}{L:List (Nat×Obj)}
theorem Bq(R:bz af F w m S)(g:Nat)(p:Int)(S':Wd)(hm:jt S g p=some S'):Calls prog 112 #[.pointer (some ⟨F.al,0,none⟩),I g,I p] w (ee fun w'=>At af F m w m w' S'):=by
 unfold jt at hm;simp only[bW,cI]at hm;obtain⟨x,hx,l,hl,hm⟩:=hm;obtain⟨k,hk,_,hl⟩:=mO hl;by_cases h1:kJ l=false
 ·rw[aF h1]at hm;cases hm
 rw[aE h1]at hm;have VT:=lM h1;by_cases h2:(ek S.aq (l-1) g).2=false
 ·rw[aF h2]at hm
  cases hm;exact E6 R g p x hx k hk l hl VT h2
 rw[aE h2]at hm;by_cases h3:kJ x.k=false
 ·rw[aF h3]at hm;cases hm
 rw[aE h3]at hm
 cases hm;have jA:=lM h3;have h:=CV R g p x hx k hk l hl VT bp5 oX _ rfl;rw[hk];exact h
theorem qY{x:bI}{i:Int}(h:dU x=some i):∃kn:Nat,x.k=kn∧x.aH[kn]?=some i:=by
 obtain⟨kn,h1,_,h2⟩:=mO h;exact⟨kn,h1,h2⟩
theorem D0{α:Type}{l l':List α}{i:Int}{x:α}(h:Mach.put l i x=some l'):∃k:Nat,i=k∧k<l.length∧l'=l.set k x:=by
 unfold Mach.put at h;by_cases hc:0≤i∧i.toNat<l.length
 ·rw[aF hc]at h
  cases h;exact⟨i.toNat,oX,hc.2,rfl⟩
 ·rw[aE hc]at h;cases h
theorem D1(X0:AB af F m0 w0 m w S L)(aG:Good S)(g:Nat)(o:cu)(nb:Nat)(ob:Obj)(fD:(nb,ob)∈L)(fP:CB nb ob o.cases)(cc:Nat)(S':Wd)(hm:ju S g o=some S'):Calls prog 116 #[.pointer (some ⟨F.al,0,none⟩),I g,.agg #[I o.ai,I o.ch,I o.n,I o.v,.slice (some ⟨nb,0,none⟩) o.cases.length cc,B o.dG]] w (ee fun w'=>∃m',AB af F m0 w0 m' w' S' L):=by
 unfold ju at hm;simp only[bW,cI]at hm;obtain⟨x,hx,hm⟩:=hm;obtain⟨p,v,b,ht⟩:∃p v b,S.Eg.take g=(p,v,b):=⟨_,_,_,rfl⟩;rw[ht]at hm
 cases b with
 |false=>
  simp only[dt]at hm
  cases hm;exact DZ X0 aG g x hx o nb ob fD fP cc p v ht
 |true=>
  simp only[aH6,dF,cI]at hm;obtain⟨i,hi,c,hc,j,hj,sd,RY,sg,oo,hm⟩:=hm;have hj:=du hj;obtain⟨kn,jA,hi⟩:=qY hi;obtain⟨k,hk,BG,bO⟩:=qW hc;subst hk;by_cases h1:kJ x.k=false
  ·rw[aF h1]at hm;cases hm
  rw[aE h1]at hm;have h9:=lM h1;obtain⟨k2,jO,Ye,rfl⟩:=D0 oo;obtain rfl:k2=k:=oX
  subst hj;rw[jA]at hm h9;by_cases he:(x.aH.length:Int)≤(kn:Int)+1
  ·rw[aF he]at hm
   cases hm;exact Bp X0 aG g x hx o nb ob fD fP cc p j ht kn k2 jA h9.2 hi c BG sd RY Ye oX
  ·rw[aE he]at hm
   cases hm;exact zX X0 aG g x hx o nb ob fD fP cc p j ht kn k2 jA h9.2 hi c BG sd RY Ye oX
theorem QP(X0:AB af F m0 w0 m w S L)(g:Nat)(o:cu)(nb:Nat)(ob:Obj)(fD:(nb,ob)∈L)(fP:CB nb ob o.cases)(cc:Nat)(S':Wd)(hm:gK S g o=some S'):Calls prog 117 #[.pointer (some ⟨F.al,0,none⟩),I g,.agg #[I o.ai,I o.ch,I o.n,I o.v,.slice (some ⟨nb,0,none⟩) o.cases.length cc,B o.dG]] w (ee fun w'=>∃m',AB af F m0 w0 m' w' S' L):=by
 unfold gK at hm;simp only[bW,cI]at hm;obtain⟨x,hx,i,hi,c,hc,s,hs,S1,h1,hm⟩:=hm;obtain⟨kn,jA,hi⟩:=qY hi;obtain⟨k,hk,BG,bO⟩:=qW hc;subst hk;rw[eR]at hs;by_cases h9:kJ x.k=false
 ·rw[aF h9]at hm;cases hm
 rw[aE h9]at hm;have h9:=lM h9;rw[jA]at hm h9
 cases RY:c.cF with
 |true=>
  rw[RY,aF rfl]at h1;by_cases he:(x.aH.length:Int)≤(kn:Int)+1
  ·rw[aF he]at hm
   cases hm;exact Co X0 g x hx o nb ob fD fP cc kn k jA h9.2 hi c BG _ (.inl ⟨RY,rfl⟩) bO s hs S1 h1 oX
  ·rw[aE he]at hm
   cases hm;exact zY X0 g x hx o nb ob fD fP cc kn k jA h9.2 hi c BG _ (.inl ⟨RY,rfl⟩) bO s hs S1 h1 oX
 |false=>
  rw[RY,aE sX]at h1;by_cases he:(x.aH.length:Int)≤(kn:Int)+1
  ·rw[aF he]at hm
   cases hm;exact Co X0 g x hx o nb ob fD fP cc kn k jA h9.2 hi c BG _ (.inr ⟨RY,rfl⟩) bO s hs S1 h1 oX
  ·rw[aE he]at hm
   cases hm;exact zY X0 g x hx o nb ob fD fP cc kn k jA h9.2 hi c BG _ (.inr ⟨RY,rfl⟩) bO s hs S1 h1 oX
theorem MS(R:bz af F w m S)(g:Nat)(S':Wd)(hm:uG S g=some S'):Calls prog 120 #[.pointer (some ⟨F.al,0,none⟩),I g] w (ee fun w'=>At af F m w m w' S'):=by
 unfold uG at hm;simp only[bW,cI]at hm;obtain⟨x,hx,i,hi,s,hs,S1,h1,hm⟩:=hm;obtain⟨kn,jA,hi⟩:=qY hi;obtain⟨k,hk,_,hs⟩:=mO hs;subst hk;by_cases h9:kJ x.k=false
 ·rw[aF h9]at hm;cases hm
 rw[aE h9]at hm;have h9:=lM h9;rw[jA]at hm h9;by_cases he:(x.aH.length:Int)≤(kn:Int)+1
 ·rw[aF he]at hm
  cases hm;exact QM R g x hx kn k jA h9.2 hi s hs S1 h1 oX
 ·rw[aE he]at hm
  cases hm;exact MQ R g x hx kn k jA h9.2 hi s hs S1 h1 oX
theorem Br(R:bz af F w m S)(aG:Good S)(g:Nat)(S':Wd)(hm:jK S g=some S'):Calls prog 122 #[.pointer (some ⟨F.al,0,none⟩),I g] w (ee (To af F m w S')):=by
 unfold jK at hm;simp only[bW,cI]at hm;obtain⟨x,hx,i,hi,s,hs,hm⟩:=hm;obtain⟨kn,jA,hi⟩:=qY hi;obtain⟨k,hk,_,hs⟩:=mO hs;subst hk;by_cases rh:s= -1
 ·rw[aF rh]at hm;simp only[eN,cI]at hm;obtain⟨sg,oo,hm⟩:=hm;obtain⟨k2,jO,_,rfl⟩:=D0 oo;obtain rfl:k2=k:=by omega
  by_cases h9:kJ x.k=false
  ·rw[aF h9]at hm;cases hm
  rw[aE h9]at hm;have h9:=lM h9;rw[jA]at hm h9;subst rh;by_cases he:(x.aH.length:Int)≤(kn:Int)+1
  ·rw[aF he]at hm
   cases hm;exact QN R aG g x hx kn k2 jA h9.2 hi hs _ (.inl ⟨oX,rfl⟩)
  ·rw[aE he]at hm
   cases hm;exact QN R aG g x hx kn k2 jA h9.2 hi hs _ (.inr ⟨oX,rfl⟩)
 ·rw[aE rh]at hm;simp only[eN,cI]at hm;obtain⟨S1,⟨j,hj,sd,RY,h1⟩,sg,oo,hm⟩:=hm;obtain⟨k2,jO,_,rfl⟩:=D0 oo;obtain rfl:k2=k:=by omega
  by_cases h9:kJ x.k=false
  ·rw[aF h9]at hm;cases hm
  rw[aE h9]at hm;have h9:=lM h9;rw[jA]at hm h9;have hj:=du hj;subst hj
  cases h1;by_cases he:(x.aH.length:Int)≤(kn:Int)+1
  ·rw[aF he]at hm
   cases hm;exact QO R aG g x hx kn k2 jA h9.2 hi j sd RY hs _ (.inl ⟨oX,rfl⟩)
  ·rw[aE he]at hm
   cases hm;exact QO R aG g x hx kn k2 jA h9.2 hi j sd RY hs _ (.inr ⟨oX,rfl⟩)
section
variable(A:At af F m0 w0 m w S)
include A
theorem GA{g:Nat}{p:Int}{S':Wd}(hm:jt S g p=some S'):Calls prog 112 #[bR F,I g,I p] w (ee (To af F m0 w0 S')):=
 (Bq A.bj g p S' hm).mono fun e w' ⟨h1,h2⟩=>⟨h1,m,A.cont h2⟩
theorem D2{g:Nat}(oo:∀x,S.gs[g]?=some x→x.bA.length≤1000000){S':Wd}(hm:iH S g=some S'):Calls prog 118 #[bR F,I g] w (ee (To af F m0 w0 S')):=
 (zi A.bj g oo S' hm).mono fun e w' ⟨h1,h2⟩=>⟨h1,m,A.cont h2⟩
theorem T1{g:Nat}{S':Wd}(hm:uF S g=some S'):Calls prog 119 #[bR F,I g] w (ee (To af F m0 w0 S')):=
 (MJ A.bj g S' hm).mono fun e w' ⟨h1,h2⟩=>⟨h1,m,A.cont h2⟩
theorem T2{g:Nat}{S':Wd}(hm:uG S g=some S'):Calls prog 120 #[bR F,I g] w (ee (To af F m0 w0 S')):=
 (MS A.bj g S' hm).mono fun e w' ⟨h1,h2⟩=>⟨h1,m,A.cont h2⟩
theorem GB(aG:Good S){g:Nat}{S':Wd}(hm:jK S g=some S'):Calls prog 122 #[bR F,I g] w (ee (To af F m0 w0 S')):=
 (Br A.bj aG g S' hm).mono fun e w' ⟨h1,m',h2⟩=>⟨h1,m',A.cont h2⟩
theorem MT(aG:Good S){g:Nat}{d:Bool}{S':Wd}(hm:gH S g=some (S',d)):Calls prog 105 #[bR F,I g] w (eL (.bool d) (To af F m0 w0 S')):=
 (xd A.bj aG g S' d hm).mono fun e w' ⟨h1,m',h2⟩=>⟨h1,m',A.cont h2⟩
theorem Bs{g:Nat}{S':Wd}(hm:eH S g=some S'):Calls prog 114 #[bR F,I g] w (ee fun w'=>At af F m0 w0 m w' S'):=
 (rm A.bj g S' hm).mono fun e w' ⟨h1,h2⟩=>⟨h1,A.cont h2⟩
end
section
variable(R:bz af F w m S)(aG:Good S)(g:Nat)(x:bI)(hx:S.gs[g]?=some x)(oo:x.ae=30→x.bA.length≤1000000)(o:cu)(ho:dH S g=o)(bO:eX o.ch)(dj:o.cases.length≤1000)(hk:o.ai=9)
include R aG g x hx oo o ho bO dj hk
theorem px(S':Wd)(hm:(x.ae=13∧gH S g=some (S',true))∨(x.ae=17∧gH S g=some (S',true))∨(x.ae=24∧jt S g 25=some S')∨(x.ae=31∧jt S g 32=some S')∨(x.ae=30∧iH S g=some S')∨(x.ae=14∧uF S g=some S')∨(x.ae=32∧uG S g=some S')∨(x.ae=34∧jK S g=some S')):Calls prog 64 #[bR F,I g] w (oV (To af F m w S')):=by
 have eM:=cA hx;have HR:=ag (At.refl R);have QQ:=ag R;have oz:(o.ai !=9)=false:=bj1
 rcases hm with⟨hp,hm⟩|⟨hp,hm⟩|⟨hp,hm⟩|⟨hp,hm⟩|⟨hp,hm⟩|⟨hp,hm⟩|⟨hp,hm⟩|⟨hp,hm⟩
 all_goals
  obtain⟨HX,HO,HP,ie⟩:=ia hx ho hp aG;have MR:Hid (∀x,S.gs[g]?=some x→x.ae=30→x.bA.length≤1000000):=fun y hy=>bn7
  have HM:=ag hm;clear R hx ho hp hk aG oo hm;unfold bR;go_enter func64,ntmps64;go_wp2_with (first|(go_at_call 92;refine(dw HR g HX HO dj).mono ?_;rintro e w1 ⟨⟨cv,rfl,gE⟩,A1⟩;obtain⟨ca,cc,rfl⟩:=dm.shape gE;have R1:=A1.bj;have p2:=R1.g HX 2 _ rfl;rw[HP.out]at p2;have c3:=R1.eu;have cm:=R1.lt R1.aB.gs;have aU:=R1.lt R1.aB.al;have iv:=ag (A1.alloc (eD o ca cc));clear A1 R1 gE)|(go_at_call 105;refine(MT iv.out.aI ie HM).mono ?_;rintro e wN ⟨rfl,T⟩;have HT:=ag T;clear T)|(go_at_call 112;refine(GA iv.out.aI HM).mono ?_;rintro e wN ⟨rfl,T⟩;have HT:=ag T;clear T)|(go_at_call 118;refine(D2 iv.out.aI (fun y hy=>MR y hy (by rw[HX.out]at hy;cases hy;exact HP)) HM).mono ?_;rintro e wN ⟨rfl,T⟩;have HT:=ag T;clear T)|(go_at_call 119;refine(T1 iv.out.aI HM).mono ?_;rintro e wN ⟨rfl,T⟩;have HT:=ag T;clear T)|(go_at_call 120;refine(T2 iv.out.aI HM).mono ?_;rintro e wN ⟨rfl,T⟩;have HT:=ag T;clear T)|(go_at_call 122;refine(GB iv.out.aI ie HM).mono ?_;rintro e wN ⟨rfl,T⟩;have HT:=ag T;clear T));go_ret;exact⟨rfl,HT⟩
theorem QR(hp:x.ae=26)(S1:Wd)(h1:rD S g 25 27=some S1)(S':Wd)(h2:eH S1 g=some S'):Calls prog 64 #[bR F,I g] w (oV (To af F m w S')):=by
 have eM:=cA hx;have HR:=ag (At.refl R);have QQ:=ag R;have oz:(o.ai !=9)=false:=bj1
 obtain⟨HX,HO,HP,ie⟩:=ia hx ho hp aG;have MR:Hid (∀x,S.gs[g]?=some x→x.ae=30→x.bA.length≤1000000):=fun y hy=>bn7
 obtain⟨H1,H2⟩:=dA h1 h2;clear R hx ho hp hk aG oo h1 h2;unfold bR;go_enter func64,ntmps64;go_wp2_with (first|(go_at_call 92;refine(dw HR g HX HO dj).mono ?_;rintro e w1 ⟨⟨cv,rfl,gE⟩,A1⟩;obtain⟨ca,cc,rfl⟩:=dm.shape gE;have R1:=A1.bj;have p2:=R1.g HX 2 _ rfl;rw[HP.out]at p2;have c3:=R1.eu;have cm:=R1.lt R1.aB.gs;have aU:=R1.lt R1.aB.al;have iv:=ag (A1.alloc (eD o ca cc));clear A1 R1 gE)|(go_at_call 99;refine(Wc iv.out.aI H1).mono ?_;rintro e wN ⟨rfl,A2⟩;have nx:=ag A2;clear A2)|(go_at_call 114;refine(Bs nx.out H2).mono ?_;rintro e Yd ⟨rfl,A3⟩;have HT:=ag A3;clear A3));go_ret;exact⟨rfl,m,HT⟩
theorem MU(hp:x.ae=33)(S':Wd)(hm:Ys S g=some (S',false)):Calls prog 64 #[bR F,I g] w (oV (To af F m w S')):=by
 have eM:=cA hx;have HR:=ag (At.refl R);have QQ:=ag R;have oz:(o.ai !=9)=false:=bj1
 obtain⟨HX,HO,HP,ie⟩:=ia hx ho hp aG;have MR:Hid (∀x,S.gs[g]?=some x→x.ae=30→x.bA.length≤1000000):=fun y hy=>bn7
 have HM:=ag hm;clear R hx ho hp hk aG oo hm;unfold bR;go_enter func64,ntmps64;go_wp2_with (first|(go_at_call 92;refine(dw HR g HX HO dj).mono ?_;rintro e w1 ⟨⟨cv,rfl,gE⟩,A1⟩;obtain⟨ca,cc,rfl⟩:=dm.shape gE;have R1:=A1.bj;have p2:=R1.g HX 2 _ rfl;rw[HP.out]at p2;have c3:=R1.eu;have cm:=R1.lt R1.aB.gs;have aU:=R1.lt R1.aB.al;have iv:=ag (A1.alloc (eD o ca cc));clear A1 R1 gE)|(go_at_call 121;refine(jb iv.out.aI HM).mono ?_;rintro e wN ⟨rfl,A2⟩;have HT:=ag A2;clear A2));go_ret;exact⟨rfl,m,HT⟩
theorem MV(hp:x.ae=33)(S1:Wd)(hm:Ys S g=some (S1,true))(x1:bI)(eE:S1.gs[g]?=some x1):Calls prog 64 #[bR F,I g] w (oV fun w'=>To af F m w (S1.ay g {x1 with ae:=34}) w'):=by
 have eM:=cA hx;have HR:=ag (At.refl R);have QQ:=ag R;have oz:(o.ai !=9)=false:=bj1
 obtain⟨HX,HO,HP,ie⟩:=ia hx ho hp aG;have MR:Hid (∀x,S.gs[g]?=some x→x.ae=30→x.bA.length≤1000000):=fun y hy=>bn7
 obtain⟨HM,jc⟩:=dA hm eE;have aB4:g<S1.gs.length:=cA eE;clear R hx ho hp hk aG oo hm eE;unfold bR;go_enter func64,ntmps64;go_wp2_with (first|(go_at_call 92;refine(dw HR g HX HO dj).mono ?_;rintro e w1 ⟨⟨cv,rfl,gE⟩,A1⟩;obtain⟨ca,cc,rfl⟩:=dm.shape gE;have R1:=A1.bj;have p2:=R1.g HX 2 _ rfl;rw[HP.out]at p2;have c3:=R1.eu;have cm:=R1.lt R1.aB.gs;have aU:=R1.lt R1.aB.al;have iv:=ag (A1.alloc (eD o ca cc));clear A1 R1 gE)|(go_at_call 121;refine(jb iv.out.aI HM).mono ?_;rintro e wN ⟨rfl,A2⟩;have R2:=A2.bj;clear p2 c3;have d3:=R2.eu;have q2:=R2.g jc 2 _ rfl;have fq2:=R2.frozen R2.aB.gs (g*25+2);have A3:=A2.g jc {x1 with ae:=34} (q:=2) (v:=I 34);have HT:=ag A3;clear A2 A3 R2));go_ret;exact⟨rfl,m,HT⟩
theorem yj(cM:o.cases≠[])(S2:Wd)(hm:(x.ae=25∧uE S g o=some S2)∨(x.ae=27∧jJ S g o=some S2)∨(x.ae=28∧ju S g o=some S2)∨(x.ae=29∧gK S g o=some S2)):Calls prog 64 #[bR F,I g] w (oV (To af F m w S2)):=by
 have eM:=cA hx;have HR:=ag (At.refl R);have QQ:=ag R;have oz:(o.ai !=9)=false:=bj1
 rcases hm with⟨hp,hm⟩|⟨hp,hm⟩|⟨hp,hm⟩|⟨hp,hm⟩
 all_goals
  obtain⟨HX,HO,HP,ie⟩:=ia hx ho hp aG;have MR:Hid (∀x,S.gs[g]?=some x→x.ae=30→x.bA.length≤1000000):=fun y hy=>bn7
  obtain⟨HM,NA⟩:=dA hm cM;clear R hx ho hp hk aG oo hm cM;unfold bR;go_enter func64,ntmps64;go_wp2_with (first|(go_at_call 92;refine(dw HR g HX HO dj).mono ?_;rintro e w1 ⟨⟨cv,rfl,gE⟩,A1⟩;obtain⟨nb,cap,ob,rfl,fP,X1⟩:=gE.block A1 QQ cG NA;have R1:=A1.bj;have p2:=R1.g HX 2 _ rfl;rw[HP.out]at p2;have c3:=R1.eu;have cm:=R1.lt R1.aB.gs;have aU:=R1.lt R1.aB.al;have iv:=ag (X1.alloc (eD o (some ⟨nb,0,none⟩) cap));have KK:=ag fP;clear A1 R1 gE fP X1)|(go_at_call 113;refine(TM iv.out.aI ie g o dj nb ob sX KK cap S2 HM).mono ?_;rintro e wN ⟨rfl,mN,X⟩;have HT:=ag X;clear X)|(go_at_call 115;refine(Gy iv.out.aI ie g o nb ob sX KK cap S2 HM).mono ?_;rintro e wN ⟨rfl,mN,X⟩;have HT:=ag X;clear X)|(go_at_call 116;refine(D1 iv.out.aI ie g o nb ob sX KK cap S2 HM).mono ?_;rintro e wN ⟨rfl,mN,X⟩;have HT:=ag X;clear X)|(go_at_call 117;refine(QP iv.out.aI g o nb ob sX KK cap S2 HM).mono ?_;rintro e wN ⟨rfl,mN,X⟩;have HT:=ag X;clear X));go_ret;exact⟨rfl,ss HT⟩
end
theorem D3{α:Type}{i:Int}:idx ([]:List α) i=none:=by unfold idx;split<;>simp
theorem Jy(R:bz af F w m S)(aG:Good S)(g:Nat)(oo:∀x,S.gs[g]?=some x→x.ae=30→x.bA.length≤1000000)(fa:∀x,S.gs[g]?=some x→x.ae=28→(dH S g).cases≠[])(S':Wd)(hm:hO S g=some (S',true)):Calls prog 64 #[.pointer (some ⟨F.al,0,none⟩),I g] w (oV (To af F m w S')):=by
 unfold hO at hm;simp only[bW,cI]at hm;obtain⟨o,eK,x,hx,hm⟩:=hm;obtain⟨ho,bO,dj⟩:=nB eK;have oo:=oo x hx;by_cases hk:o.ai≠9
 ·rw[aF hk]at hm
  cases hm
 rw[aE hk]at hm;have hk:o.ai=9:=oX
 by_cases hp:x.ae=13∨x.ae=17
 ·rw[aF hp]at hm;rcases hp with hp|hp
  ·exact px R aG g x hx oo o ho bO dj hk _ (.inl ⟨hp,hm⟩)
  ·exact px R aG g x hx oo o ho bO dj hk _ (.inr (.inl ⟨hp,hm⟩))
 rw[aE hp]at hm;by_cases hp:x.ae=24
 ·rw[aF hp]at hm;exact px R aG g x hx oo o ho bO dj hk _ (.inr (.inr (.inl ⟨hp,(dS hm).1⟩)))
 rw[aE hp]at hm;by_cases hp:x.ae=25
 ·rw[aF hp]at hm;have hn:=(dS hm).1;by_cases cM:o.cases=[]
  ·exfalso;unfold uE at hn;exact aZ0
  exact yj R aG g x hx oo o ho bO dj hk cM _ (.inl ⟨hp,hn⟩)
 rw[aE hp]at hm;by_cases hp:x.ae=26
 ·rw[aF hp]at hm;have hn:=(dS hm).1;simp only[cI]at hn;obtain⟨S1,h1,h2⟩:=hn;exact QR R aG g x hx oo o ho bO dj hk hp S1 h1 _ h2
 rw[aE hp]at hm;by_cases hp:x.ae=27
 ·rw[aF hp]at hm;have hn:=(dS hm).1;by_cases cM:o.cases=[]
  ·exfalso;unfold jJ at hn;exact aZ0
  exact yj R aG g x hx oo o ho bO dj hk cM _ (.inr (.inl ⟨hp,hn⟩))
 rw[aE hp]at hm;by_cases hp:x.ae=28
 ·rw[aF hp]at hm;have hn:=(dS hm).1;have cM:o.cases≠[]:=by rw[←ho];exact fa x hx hp
  exact yj R aG g x hx oo o ho bO dj hk cM _ (.inr (.inr (.inl ⟨hp,hn⟩)))
 rw[aE hp]at hm;by_cases hp:x.ae=29
 ·rw[aF hp]at hm;have hn:=(dS hm).1;by_cases cM:o.cases=[]
  ·exfalso;unfold gK at hn;exact aZ0
  exact yj R aG g x hx oo o ho bO dj hk cM _ (.inr (.inr (.inr ⟨hp,hn⟩)))
 rw[aE hp]at hm;by_cases hp:x.ae=30
 ·rw[aF hp]at hm;exact px R aG g x hx oo o ho bO dj hk _ (.inr (.inr (.inr (.inr (.inl ⟨hp,(dS hm).1⟩)))))
 rw[aE hp]at hm;by_cases hp:x.ae=14
 ·rw[aF hp]at hm;exact px R aG g x hx oo o ho bO dj hk _ (.inr (.inr (.inr (.inr (.inr (.inl ⟨hp,(dS hm).1⟩))))))
 rw[aE hp]at hm;by_cases hp:x.ae=31
 ·rw[aF hp]at hm;exact px R aG g x hx oo o ho bO dj hk _ (.inr (.inr (.inr (.inl ⟨hp,(dS hm).1⟩))))
 rw[aE hp]at hm;by_cases hp:x.ae=32
 ·rw[aF hp]at hm;exact px R aG g x hx oo o ho bO dj hk _ (.inr (.inr (.inr (.inr (.inr (.inr (.inl ⟨hp,(dS hm).1⟩)))))))
 rw[aE hp]at hm;by_cases hp:x.ae=33
 ·rw[aF hp]at hm;simp only[cI]at hm;obtain⟨⟨S1,fin⟩,h1,hm⟩:=hm
  cases fin with
  |true=>
   simp only[dt]at hm;obtain⟨x1,eE,rfl⟩:=Nb (dS hm).1;exact MV R aG g x hx oo o ho bO dj hk hp S1 h1 x1 eE
  |false=>
   simp only[nW,dF,oZ,Prod.mk.injEq,and_true]at hm;subst hm;exact MU R aG g x hx oo o ho bO dj hk hp S1 h1
 rw[aE hp]at hm;by_cases hp:x.ae=34
 ·rw[aF hp]at hm;exact px R aG g x hx oo o ho bO dj hk _ (.inr (.inr (.inr (.inr (.inr (.inr (.inr ⟨hp,(dS hm).1⟩)))))))
 rw[aE hp]at hm
 cases hm
end
section
variable{af g eb:Nat}{F:Fx}{w w0 w':World}{m m0 m':Mem}{S S':Wd}{L:List (Nat×Obj)}
def TB(af:Nat)(F:Fx)(m0:Mem)(w0:World)(S:Wd)(L:List (Nat×Obj))(w:World):Prop:=∃m,AB af F m0 w0 m w S L
theorem TB.av(T:TB af F m0 w0 S L w){f:Nat}{args:Array Value}{S':Wd}{v:Value}(h:∀m,bz af F w m S→Calls prog f args w fun e w'=>e=.returned v∧To af F m w S' w'):Calls prog f args w fun e w'=>e=.returned v∧TB af F m0 w0 S' L w':=by
 obtain⟨m,X⟩:=T;exact(h m X.bj).mono fun e w' ⟨h1,m',h2⟩=>⟨h1,m',X.av h2⟩
theorem TB.same(T:TB af F m0 w0 S L w){f:Nat}{args:Array Value}{v:Value}(h:∀m,bz af F w m S→Calls prog f args w fun e w'=>e=.returned v∧w=w'):Calls prog f args w fun e w'=>e=.returned v∧TB af F m0 w0 S L w':=by
 obtain⟨m,X⟩:=T;exact(h m X.bj).mono fun e w' ⟨h1,h2⟩=>⟨h1,m,h2▸X⟩
theorem TB.heap(T:TB af F m0 w0 S L w)(h1:w'.heap=w.heap)(h2:w'.os=w.os)(h3:w'.tape=w.tape)(h4:w'.output=w.output):TB af F m0 w0 S L w':=by
 obtain⟨m,X⟩:=T;exact⟨m,X.aI h1 h2 h3 h4⟩
structure Cp(S:Wd)(g:Nat):Prop where
 aG:Good S
 o:zP S g
 bA:∀x,S.gs[g]?=some x→x.ae=30→x.bA.length≤1000000
 cs:∀x,S.gs[g]?=some x→x.ae=28→(dH S g).cases≠[]
 ax:S.ax.length≤1000
 av: -1000000000≤S.av∧S.av≤1000000000
theorem AB.GC(X:AB af F m0 w0 m w S L)(n:Int):AB af F m0 w0 m (w.setCell ⟨F.al,2,none⟩ (I n)) {S with av:=n} L:=by
 refine⟨X.at_.av n,fun p hp=>⟨?_,(X.loc p hp).2⟩⟩;rw[fQ _ _ _ _ (fun e=>(X.loc p hp).2 .al (by rw[e];exact X.bj.aB.al))];exact(X.loc p hp).1
def jS(F:Fx)(eb:Nat)(L:List (Nat×Obj)):Prop:=(eb,.cells #[.pointer (some ⟨F.al,0,none⟩)] 78)∈L
theorem jS.cell(h:jS F eb L)(X:AB af F m0 w0 m w S L):w.cell? ⟨eb,0,none⟩=some (.pointer (some ⟨F.al,0,none⟩)):=by
 rw[cr w eb 0 _ _ _ (X.loc _ h).1];rfl
section
variable(h:jS F eb L)(X:AB af F m0 w0 m w S L)
include h X
theorem jS.ne:F.al≠eb:=fun e=>(X.loc _ h).2 .al (by rw[←e];exact X.bj.aB.al)
theorem jS.lt:eb<w.heap.size:=(dh (X.loc _ h).1).1
end
theorem Jz(R:bz af F w m S)(aG:zP S g)(S':Wd)(hm:gh S g=some (S',true)):Calls prog 60 #[.pointer (some ⟨F.al,0,none⟩),I g] w (oV (To af F m w S')):=by
 unfold gh at hm;simp only[bW,cI]at hm;obtain⟨x,hx,hm⟩:=hm;by_cases h0:x.ae=0
 ·rw[aF h0]at hm;exact TQ R aG x hx h0 S' (dS hm).1
 rw[aE h0]at hm;by_cases h1:x.ae=20
 ·rw[aF h1]at hm;exact Qx R aG x hx h1 S' (dS hm).1
 rw[aE h1]at hm;by_cases h2:x.ae=18
 ·rw[aF h2]at hm;exact Qy R x hx h2 S' (dS hm).1
 rw[aE h2]at hm
 cases hm
section
variable(X:AB af F m0 w0 m w S L)(he:jS F eb L)(jf:bU S.ax g=0)(hn: -1000000000≤S.av∧S.av≤1000000000)(S1:Wd)
include X he jf hn S1
theorem af5(Ci:S1={S with av:=S.av+1})(hgo:zP S1 g)(KQ:gh S1 g=some (S',true)):Calls prog 30 #[.pointer (some ⟨eb,0,none⟩),I g] w (oV (TB af F m0 w0 S' L)):=by
 have ec:=he.cell X;have en:=he.ne X;have el:=he.lt X;have R:=X.bj;have c4:=R.nJ;have c2:=R.dM;have f2:=R.frozen R.aB.al 2;have lw:=R.lt R.aB.al;have HB:=ag (gZ R g);rw[jf]at HB;have HT:Hid (TB af F m0 w0 S1 L (w.setCell ⟨F.al,2,none⟩ (I (S.av+1)))):=⟨m,br2⟩;have HGO:=ag hgo;have T3:=ag KQ;clear X R he jf Ci hgo KQ;go_enter func30,ntmps30;go_wp2_with (first|(go_at_call 50;refine HB.out.mono ?_;rintro e w1 ⟨rfl,rfl⟩)|(go_at_call 60;refine(TB.av (S:=S1) (HT.out.heap rfl rfl rfl rfl) (fun m R=>Jz R HGO S' T3)).mono ?_;rintro e w60 ⟨rfl,T⟩;have HZ:=ag T;clear T));go_ret;exact⟨rfl,HZ⟩
theorem af6(Ci:S1={S with av:=S.av+1})(x:bI)(Nv:S1.gs[g]?=some x)(EP:x.ae≠0∧x.ae≠20∧x.ae≠18)(o:cu)(IZ:dH S1 g=o)(dj:o.cases.length≤1000)(QS:Good S1)(KQ:jq S1 g=some (S',true)):Calls prog 30 #[.pointer (some ⟨eb,0,none⟩),I g] w (oV (TB af F m0 w0 S' L)):=by
 have ec:=he.cell X;have en:=he.ne X;have el:=he.lt X;have R:=X.bj;have c4:=R.nJ;have c2:=R.dM;have f2:=R.frozen R.aB.al 2;have lw:=R.lt R.aB.al;have HB:=ag (gZ R g);rw[jf]at HB;have HT:Hid (TB af F m0 w0 S1 L (w.setCell ⟨F.al,2,none⟩ (I (S.av+1)))):=⟨m,br2⟩;have MW:=ag Nv;have W9:=ag EP;have T5:=ag IZ;have Xa:=ag QS;have T3:=ag KQ;clear X R he jf Ci Nv EP IZ QS KQ;go_enter func30,ntmps30;go_wp2_with (first|(go_at_call 50;refine HB.out.mono ?_;rintro e w1 ⟨rfl,rfl⟩)|(go_at_call 60;refine(TB.same (S:=S1) (HT.out.heap rfl rfl rfl rfl) (fun m R=>vp R x MW W9)).mono ?_;rintro e w60 ⟨rfl,T⟩;have HA:=ag T;clear T)|(go_at_call 61;refine(TB.av (S:=S1) (HA.out.heap rfl rfl rfl rfl) (fun m R=>Jk R Xa g S' true T3)).mono ?_;rintro e w61 ⟨rfl,T⟩;have HZ:=ag T;clear T));go_ret;exact⟨rfl,HZ⟩
theorem af7(Ci:S1={S with av:=S.av+1})(x:bI)(Nv:S1.gs[g]?=some x)(EP:x.ae≠0∧x.ae≠20∧x.ae≠18)(o:cu)(IZ:dH S1 g=o)(dj:o.cases.length≤1000)(Vf:o.ai≠2∧o.ai≠4)(QS:Good S1)(KQ:jr S1 g=some (S',true)):Calls prog 30 #[.pointer (some ⟨eb,0,none⟩),I g] w (oV (TB af F m0 w0 S' L)):=by
 have ec:=he.cell X;have en:=he.ne X;have el:=he.lt X;have R:=X.bj;have c4:=R.nJ;have c2:=R.dM;have f2:=R.frozen R.aB.al 2;have lw:=R.lt R.aB.al;have HB:=ag (gZ R g);rw[jf]at HB;have HT:Hid (TB af F m0 w0 S1 L (w.setCell ⟨F.al,2,none⟩ (I (S.av+1)))):=⟨m,br2⟩;have MW:=ag Nv;have W9:=ag EP;have T5:=ag IZ;have Vg:=ag Vf;have Xa:=ag QS;have T3:=ag KQ;clear X R he jf Ci Nv EP IZ Vf QS KQ;go_enter func30,ntmps30;go_wp2_with (first|(go_at_call 50;refine HB.out.mono ?_;rintro e w1 ⟨rfl,rfl⟩)|(go_at_call 60;refine(TB.same (S:=S1) (HT.out.heap rfl rfl rfl rfl) (fun m R=>vp R x MW W9)).mono ?_;rintro e w60 ⟨rfl,T⟩;have HA:=ag T;clear T)|(go_at_call 61;refine(TB.av (S:=S1) (HA.out.heap rfl rfl rfl rfl) (fun m R=>vm R g x MW o T5 dj Vg)).mono ?_;rintro e w61 ⟨rfl,T⟩;have pH:=ag T;clear T)|(go_at_call 62;refine(TB.av (S:=S1) (pH.out.heap rfl rfl rfl rfl) (fun m R=>Ju R Xa g S' T3)).mono ?_;rintro e w62 ⟨rfl,T⟩;have HZ:=ag T;clear T));go_ret;exact⟨rfl,HZ⟩
theorem af8(Ci:S1={S with av:=S.av+1})(x:bI)(Nv:S1.gs[g]?=some x)(EP:x.ae≠0∧x.ae≠20∧x.ae≠18)(o:cu)(IZ:dH S1 g=o)(dj:o.cases.length≤1000)(Vf:(o.ai≠2∧o.ai≠4)∧(o.ai≠3∧o.ai≠5))(QS:Good S1)(KQ:js S1 g=some (S',true)):Calls prog 30 #[.pointer (some ⟨eb,0,none⟩),I g] w (oV (TB af F m0 w0 S' L)):=by
 have ec:=he.cell X;have en:=he.ne X;have el:=he.lt X;have R:=X.bj;have c4:=R.nJ;have c2:=R.dM;have f2:=R.frozen R.aB.al 2;have lw:=R.lt R.aB.al;have HB:=ag (gZ R g);rw[jf]at HB;have HT:Hid (TB af F m0 w0 S1 L (w.setCell ⟨F.al,2,none⟩ (I (S.av+1)))):=⟨m,br2⟩;have MW:=ag Nv;have W9:=ag EP;have T5:=ag IZ;have Vg:=ag Vf;have Xa:=ag QS;have T3:=ag KQ;clear X R he jf Ci Nv EP IZ Vf QS KQ;go_enter func30,ntmps30;go_wp2_with (first|(go_at_call 50;refine HB.out.mono ?_;rintro e w1 ⟨rfl,rfl⟩)|(go_at_call 60;refine(TB.same (S:=S1) (HT.out.heap rfl rfl rfl rfl) (fun m R=>vp R x MW W9)).mono ?_;rintro e w60 ⟨rfl,T⟩;have HA:=ag T;clear T)|(go_at_call 61;refine(TB.av (S:=S1) (HA.out.heap rfl rfl rfl rfl) (fun m R=>vm R g x MW o T5 dj Vg.out.1)).mono ?_;rintro e w61 ⟨rfl,T⟩;have pH:=ag T;clear T)|(go_at_call 62;refine(TB.av (S:=S1) (pH.out.heap rfl rfl rfl rfl) (fun m R=>Gw R g x MW o T5 dj Vg.out.2)).mono ?_;rintro e w62 ⟨rfl,T⟩;have Sz:=ag T;clear T)|(go_at_call 63;refine(TB.av (S:=S1) (Sz.out.heap rfl rfl rfl rfl) (fun m R=>Jv R Xa g S' T3)).mono ?_;rintro e w63 ⟨rfl,T⟩;have HZ:=ag T;clear T));go_ret;exact⟨rfl,HZ⟩
theorem af9(Ci:S1={S with av:=S.av+1})(x:bI)(Nv:S1.gs[g]?=some x)(EP:x.ae≠0∧x.ae≠20∧x.ae≠18)(o:cu)(IZ:dH S1 g=o)(dj:o.cases.length≤1000)(Vf:(o.ai≠2∧o.ai≠4)∧(o.ai≠3∧o.ai≠5)∧o.ai≠6)(QS:Good S1)(ag0:∀x,S1.gs[g]?=some x→x.ae=30→x.bA.length≤1000000)(ag1:∀x,S1.gs[g]?=some x→x.ae=28→(dH S1 g).cases≠[])(KQ:hO S1 g=some (S',true)):Calls prog 30 #[.pointer (some ⟨eb,0,none⟩),I g] w (oV (TB af F m0 w0 S' L)):=by
 have ec:=he.cell X;have en:=he.ne X;have el:=he.lt X;have R:=X.bj;have c4:=R.nJ;have c2:=R.dM;have f2:=R.frozen R.aB.al 2;have lw:=R.lt R.aB.al;have HB:=ag (gZ R g);rw[jf]at HB;have HT:Hid (TB af F m0 w0 S1 L (w.setCell ⟨F.al,2,none⟩ (I (S.av+1)))):=⟨m,br2⟩;have MW:=ag Nv;have W9:=ag EP;have T5:=ag IZ;have Vg:=ag Vf;have Xa:=ag QS;have au6:=ag ag0;have au7:=ag ag1;have T3:=ag KQ;clear X R he jf Ci Nv EP IZ Vf QS ag0 ag1 KQ;go_enter func30,ntmps30;go_wp2_with (first|(go_at_call 50;refine HB.out.mono ?_;rintro e w1 ⟨rfl,rfl⟩)|(go_at_call 60;refine(TB.same (S:=S1) (HT.out.heap rfl rfl rfl rfl) (fun m R=>vp R x MW W9)).mono ?_;rintro e w60 ⟨rfl,T⟩;have HA:=ag T;clear T)|(go_at_call 61;refine(TB.av (S:=S1) (HA.out.heap rfl rfl rfl rfl) (fun m R=>vm R g x MW o T5 dj Vg.out.1)).mono ?_;rintro e w61 ⟨rfl,T⟩;have pH:=ag T;clear T)|(go_at_call 62;refine(TB.av (S:=S1) (pH.out.heap rfl rfl rfl rfl) (fun m R=>Gw R g x MW o T5 dj Vg.out.2.1)).mono ?_;rintro e w62 ⟨rfl,T⟩;have Sz:=ag T;clear T)|(go_at_call 63;refine(TB.av (S:=S1) (Sz.out.heap rfl rfl rfl rfl) (fun m R=>QK R g x MW o T5 dj Vg.out.2.2)).mono ?_;rintro e w63 ⟨rfl,T⟩;have HD1:=ag T;clear T)|(go_at_call 64;refine(TB.av (S:=S1) (HD1.out.heap rfl rfl rfl rfl) (fun m R=>Jy R Xa g au6 au7 S' T3)).mono ?_;rintro e w64 ⟨rfl,T⟩;have HZ:=ag T;clear T));go_ret;exact⟨rfl,HZ⟩
end
end
def uj(S1:Wd)(g:Nat)(S':Wd):Prop:=
 gh S1 g=some (S',true)∨∃x o,S1.gs[g]?=some x∧(x.ae≠0∧x.ae≠20∧x.ae≠18)∧mf S1 g=some o∧
  ((o.ai=2∨o.ai=4)∧jq S1 g=some (S',true)∨(o.ai=3∨o.ai=5)∧jr S1 g=some (S',true)∨o.ai=6∧js S1 g=some (S',true)∨o.ai=9∧hO S1 g=some (S',true))
section
variable{af g eb:Nat}{F:Fx}{w w0 w':World}{m m0 m':Mem}{S S':Wd}{L:List (Nat×Obj)}
theorem GD(X:AB af F m0 w0 m w S L)(he:jS F eb L)(jf:bU S.ax g=0)(hn: -1000000000≤S.av∧S.av≤1000000000)(aG:Cp {S with av:=S.av+1} g)(hm:uj {S with av:=S.av+1} g S'):Calls prog 30 #[.pointer (some ⟨eb,0,none⟩),I g] w (oV (TB af F m0 w0 S' L)):=by
 rcases hm with hm|⟨x,o,hx,hp,eK,hm⟩
 ·exact af5 X he jf hn _ rfl aG.o hm
 obtain⟨ho,bO,dj⟩:=nB eK;rcases hm with⟨hk,hm⟩|⟨hk,hm⟩|⟨hk,hm⟩|⟨hk,hm⟩
 ·exact af6 X he jf hn _ rfl x hx hp o ho dj aG.aG hm
 ·exact af7 X he jf hn _ rfl x hx hp o ho dj oX aG.aG hm
 ·exact af8 X he jf hn _ rfl x hx hp o ho dj oX aG.aG hm
 ·exact af9 X he jf hn _ rfl x hx hp o ho dj oX aG.aG aG.bA aG.cs hm
theorem JA(X:AB af F m0 w0 m w S L)(hb:S.ax.length≤1000):Calls prog 59 #[.pointer (some ⟨F.dB,0,none⟩)] w (vH w (cE S.ax)):=DK X.bj hb
section
variable(X:AB af F m0 w0 m w S L)(he:jS F eb L)(hb:S.ax.length≤1000)
include X he hb
theorem pT:Calls prog 28 #[.pointer (some ⟨eb,0,none⟩)] w (vH w (cE S.ax)):=by
 have ec:=he.cell X;have R:=X.bj;have c4:=R.nJ;have lw:=R.lt R.aB.al;have HB:=ag (JA X hb);clear X R he;go_enter func28,ntmps28;go_wp2_with (go_at_call 59;go_loud (refine HB.out.mono ?_;rintro e w1 ⟨v,rfl,ho,hbb⟩;obtain⟨HO,IX⟩:=dA ho hbb;clear ho hbb));go_ret;exact⟨_,rfl,HO,IX⟩
theorem JB(pick:Int)(h0:cE S.ax=[]):Calls prog 25 #[.pointer (some ⟨eb,0,none⟩),I pick] w (eL (I (-1)) (TB af F m0 w0 S L)):=by
 have HX:=ag X;have HB:=ag (pT X he hb);rw[h0]at HB;clear X he h0;go_enter func25,ntmps25;go_wp2_with (go_at_call 28;refine HB.out.mono ?_;rintro e w1 ⟨v,rfl,ho,hbb⟩;obtain⟨a,c,rfl⟩:=qo ho;have IX:=ag hbb;clear ho hbb);go_ret;exact⟨rfl,m,HX.out.below IX⟩
theorem zZ(pick:Int)(hp: -9223372036854775808≤pick∧pick≤9223372036854775807)(l:List Int)(hl:l=cE S.ax)(h0:l≠[])(hg:pA l pick=g)(jf:bU S.ax g=0)(hn: -1000000000≤S.av∧S.av≤1000000000)(aG:Cp {S with av:=S.av+1} g)(hm:uj {S with av:=S.av+1} g S'):Calls prog 25 #[.pointer (some ⟨eb,0,none⟩),I pick] w (eL (I g) (TB af F m0 w0 S' L)):=by
 have HX:=ag X;have HB:=ag (pT X he hb);rw[←hl]at HB;have J8:l.length≤1000:=by rw[hl];have:=xg S.ax 0;unfold cE;omega
 have hpos:0<l.length:=pd h0;obtain⟨n,hn'⟩:∃n,n=l.length:=⟨_,rfl⟩;obtain⟨i,hi⟩:∃i:Nat,(pick % (n:Int))=i:=pz (Int.emod_nonneg _ oX);have kL:i<n:=by have:=Int.emod_lt_of_pos pick (b:=(n:Int)) oX;omega
 have hgi:l.getD i 0=g:=by unfold pA at hg;rw[←hn',hi]at hg;simpa using hg
 obtain⟨hN,HG⟩:=dA hn' hgi;have HO:Hid (∀w',AB af F m0 w0 m w' S L→Calls prog 30 #[.pointer (some ⟨eb,0,none⟩),I g] w' fun e w'=>e=.returned (.bool true)∧TB af F m0 w0 S' L w'):=fun w' Y=>GD Y he jf hn aG hm
 have htm:(0≤Int.tmod pick n∧Int.tmod pick n=i)∨(Int.tmod pick n<0∧Int.tmod pick n+n=i):=by
  have h1:=Int.tmod_eq_emod (a:=pick) (b:=(n:Int));have h2:=Int.emod_nonneg pick (b:=(n:Int)) oX;have h3:=Int.emod_lt_of_pos pick (b:=(n:Int)) oX;rw[hi]at h1;split at h1
  ·left;omega
  ·right;rename_i h;have h4:(n:Int).natAbs=n:=by omega
   omega
 rw[←hn']at J8 hpos;have vN:((n:Int)==0)=false:=bi8
 clear X he h0 hl hg jf aG hm hn' hi hgi;rcases htm with⟨ht1,ht2⟩|⟨ht1,ht2⟩
 ·have dD:decide (Int.tmod pick n<0)=false:=by simp;omega
  have rT:decide ((i:Int)<0)=false:=sX
  go_enter func25,ntmps25;go_wp2_with (first|(go_at_call 28;refine HB.out.mono ?_;rintro e w1 ⟨v,rfl,ho,hbb⟩;obtain⟨a,c,rfl,jF⟩:=ho.rd (by rw[←hN.out];omega);rw[←hN.out];obtain⟨b,off,rfl,hc⟩:=jF.at i (by rw[←hN.out];exact kL);rw[HG.out]at hc;have IX:=ag hbb;clear ho hbb jF)|(go_at_call 30;refine(HO _ (HX.out.below IX)).mono ?_;rintro e w2 ⟨rfl,T⟩;have HT:=ag T;clear T));go_ret;exact⟨rfl,HT⟩
 ·have dD:decide (Int.tmod pick n<0)=true:=by simpa using ht1
  go_enter func25,ntmps25;go_wp2_with (first|(go_at_call 28;refine HB.out.mono ?_;rintro e w1 ⟨v,rfl,ho,hbb⟩;obtain⟨a,c,rfl,jF⟩:=ho.rd (by rw[←hN.out];omega);rw[←hN.out];obtain⟨b,off,rfl,hc⟩:=jF.at i (by rw[←hN.out];exact kL);rw[HG.out]at hc;have IX:=ag hbb;clear ho hbb jF)|(go_at_call 30;refine(HO _ (HX.out.below IX)).mono ?_;rintro e w2 ⟨rfl,T⟩;have HT:=ag T;clear T));go_ret;exact⟨rfl,HT⟩
end
end
namespace V
structure QT(w w':Wd)(g:Nat)(x:bI):Prop where
 ops:w'.gs.map (·.ops)=w.gs.map (·.ops)
 av:w'.av=w.av+1
 list:w'.list=w.list
 drawn:w.drawn≤w'.drawn∧(w'.drawn≤w.drawn∨w'.drawn≤w.list.length)
 done:w'.done=w.done∨x.ae=18∧w'.done=w.done++[qu x g (w.av+1)]
 au:w.au.length≤w'.au.length
section
variable{w w' w2:Wd}{ls:List (List Nat)}{g z s C:Nat}{x x' xA y:bI}{sd:gn}{o:cu}
theorem JC{k p:Int}(h:bG k p=true)(hk:k=1∨k=7∨k=8)(hp:0≤p∧p≤34):p=0∨p=18∨p=20:=by
 obtain⟨n,rfl⟩:=pz hp.1;have key:∀n:Fin 35,∀k∈([1,7,8]:List Int),bG k ((n:Nat):Int)=true→(n:Nat)=0∨(n:Nat)=18∨(n:Nat)=20:=dX
 have:=key ⟨n,oX⟩ k bn3 h;simp only at this;omega
theorem QU(I:Inv w ls)(hx:w.gs[g]?=some x)(hs:Na w g)(hd:0≤w.drawn)(Rp:kJ w.drawn=true)(hdn:w.done.length<1000000):∃S' fM,uj {w with av:=w.av+1} g S'∧Inv S' fM∧QT w S' g x:=by
 have I1:Inv {w with av:=w.av+1} ls:=I.same rfl rfl rfl rfl rfl rfl rfl rfl;have eE:({w with av:=w.av+1}:Wd).gs[g]?=some x:=hx;have rh:Na {w with av:=w.av+1} g:=hs;have L:=I.loc g x hx;have kd:∀{w':Wd},wE {w with av:=w.av+1} w'→QT w w' g x:=fun K=>⟨K.ops,K.av,K.list,K.drawn,.inl K.done,K.au⟩
 by_cases p0:x.ae=0
 ·obtain⟨w',a,b,c⟩:=Mp I1 eE rh p0 hd Rp;refine⟨w',ls,.inl ?_,b,kd c⟩;unfold gh;simp only[hx,bW,eN];rw[aF p0];exact nN a
 by_cases yh:x.ae=20
 ·obtain⟨w',a,b,c⟩:=WI I1 eE rh yh;refine⟨w',ls,.inl ?_,b,kd c⟩;unfold gh;simp only[hx,bW,eN];rw[aE p0,aF yh];exact nN a
 by_cases FB:x.ae=18
 ·obtain⟨w',a,b,c1,c2,c3,c4,c5,c6⟩:=F0 I1 eE rh FB hdn;refine⟨w',ls,.inl ?_,b,c1,c2,c3,by rw[c4];exact⟨Int.le_refl _,.inl (Int.le_refl _)⟩,.inr ⟨FB,c5⟩,Nat.le_of_eq c6.symm⟩;unfold gh;simp only[hx,bW,eN];rw[aE p0,aE yh,aF FB];exact nN a
 have p19:x.ae≠19:=fun h=>by obtain⟨t,hb⟩:=hs;have:=(I.st g x 0 t hx hb).2.2.2.2.1 h;omega
 obtain⟨ho,hR⟩:=pj I1 eE p0;have hk:=hR.k;have pM:=L.kp p0;have kM:=L.pl;have au8:(aP x).ai=1∨(aP x).ai=7∨(aP x).ai=8→False:=fun h=>by have:=JC pM h kM;omega
 have fin:∀{w':Wd} {fM:List (List Nat)},Inv w' fM→bK {w with av:=w.av+1} w'→uj {w with av:=w.av+1} g w'→∃S' fM,uj {w with av:=w.av+1} g S'∧Inv S' fM∧QT w S' g x:=fun b c d=>⟨_,_,d,b,kd c.d⟩
 have hp:x.ae≠0∧x.ae≠18∧x.ae≠19∧x.ae≠20:=⟨p0,FB,p19,yh⟩
 have kk:((aP x).ai=2∨(aP x).ai=4)∨((aP x).ai=3∨(aP x).ai=5)∨(aP x).ai=6∨(aP x).ai=9:=by
  rcases Classical.em ((aP x).ai=1∨(aP x).ai=7∨(aP x).ai=8)with h|h
  ·exact aX h au8
  ·omega
 rcases kk with k|k|k|k
 ·obtain⟨w',fM,a,b,c⟩:=DO I1 eE rh k hp;exact fin b c (.inr ⟨x,_,eE,⟨p0,yh,FB⟩,ho,.inl ⟨k,a⟩⟩)
 ·obtain⟨w',fM,a,b,c⟩:=DP I1 eE rh k hp;exact fin b c (.inr ⟨x,_,eE,⟨p0,yh,FB⟩,ho,.inr (.inl ⟨k,a⟩)⟩)
 ·obtain⟨w',fM,a,b,c⟩:=DQ I1 eE rh k hp;exact fin b c (.inr ⟨x,_,eE,⟨p0,yh,FB⟩,ho,.inr (.inr (.inl ⟨k,a⟩))⟩)
 ·obtain⟨w',fM,a,b,c⟩:=zw I1 eE rh k hp;exact fin b c (.inr ⟨x,_,eE,⟨p0,yh,FB⟩,ho,.inr (.inr (.inr ⟨k,a⟩))⟩)
end
end V
structure T6(N:Nat)(P:Nat→Wd→Prop):Prop where
 ax:∀k S,P k S→S.ax.length≤1000
 av:∀k S,P k S→ -1000000000≤S.av∧S.av≤1000000000
 who:∀k S g,P k S→g∈cE S.ax→∃j:Nat,g=j∧bU S.ax g=0
 aG:∀k S (g:Nat),P k S→k<N→bU S.ax g=0→Cp {S with av:=S.av+1} g
section
variable{af g eb:Nat}{F:Fx}{w w0 w':World}{m m0 m':Mem}{S S':Wd}{L:List (Nat×Obj)}
theorem vt{l:List Int}(h0:l≠[])(pick:Int):pA l pick∈l:=by
 unfold pA;have hpos:0<l.length:=pd h0;have h2:=Int.emod_nonneg pick (b:=(l.length:Int)) oX;have h3:=Int.emod_lt_of_pos pick (b:=(l.length:Int)) oX;rw[yk,fv oX];exact List.getElem_mem _
section
variable{N:Nat}{P:Nat→Wd→Prop}(G:T6 N P)(T:TB af F m0 w0 S L w)(he:jS F eb L)
include G T he
theorem MX{k:Nat}(hP:P k S)(hk:k<N)(pick:Int)(hp: -9223372036854775808≤pick∧pick≤9223372036854775807)(h0:cE S.ax≠[])(hs:∀g:Nat,pA (cE S.ax) pick=g→∃S',uj {S with av:=S.av+1} g S'∧P (k+1) S'):∃(g:Nat) (S':Wd),pA (cE S.ax) pick=g∧P (k+1) S'∧Calls prog 25 #[.pointer (some ⟨eb,0,none⟩),I pick] w (eL (I g) (TB af F m0 w0 S' L)):=by
 obtain⟨m,X⟩:=T;obtain⟨g,hg,jf⟩:=G.who k S _ hP (vt h0 pick);rw[hg]at jf;obtain⟨S',h1,h2⟩:=hs g hg;exact⟨g,S',hg,h2,zZ X he (G.ax k S hP) pick hp _ rfl h0 hg jf (G.av k S hP) (G.aG k S g hP hk jf) h1⟩
theorem MY(hP:P 0 S)(zs:List Int)(n:Nat)(hn:n=zs.length)(hN:n≤N)(hN2:n≤1000000)(a:Option Addr)(c:Nat)(hz:∀z∈zs,-9223372036854775808≤z∧z≤9223372036854775807)(jF:∀W:World,(∀p∈L,W.heap[p.1]?=some p.2)→Rd .i64 W a zs)(hs:∀k S z,P k S→zs[k]?=some z→cE S.ax≠[]→∀g:Nat,pA (cE S.ax) z=g→∃S',uj {S with av:=S.av+1} g S'∧P (k+1) S'):Calls prog 9 #[.pointer (some ⟨eb,0,none⟩),.slice a n c] w fun e w'=>(∃q,e=.returned (I q))∧∃k S',P k S'∧(k=n∨cE S'.ax=[])∧TB af F m0 w0 S' L w':=by
 have HE:Hid (∀k S w z,P k S→zs[k]?=some z→cE S.ax≠[]→TB af F m0 w0 S L w→∃(g:Nat) (S':Wd),pA (cE S.ax) z=g∧P (k+1) S'∧Calls prog 25 #[.pointer (some ⟨eb,0,none⟩),I z] w (eL (I g) fun w'=>TB af F m0 w0 S' L w')):=by
  intro k S w z h1 h2 h0 T;have hk:k<n:=by rw[hn];exact(cA h2)
  exact MX G T he h1 oX z (hz z (lf h2)) h0 (hs k S z h1 h2 h0)
 have HE0:Hid (∀k S w z,P k S→cE S.ax=[]→TB af F m0 w0 S L w→Calls prog 25 #[.pointer (some ⟨eb,0,none⟩),I z] w fun e w'=>e=.returned (I (-1))∧TB af F m0 w0 S L w'):=fun k S w z h1 h0 ⟨m,X⟩=>JB X he (G.ax k S h1) z h0
 have HN:=ag hn;have CZ:Hid (∀S w,TB af F m0 w0 S L w→Rd .i64 w a zs):=fun S w ⟨m,X⟩=>jF w fun p hp=>(X.loc p hp).1
 have HP:Hid (∃S',P 0 S'∧TB af F m0 w0 S' L w):=⟨S,hP,T⟩;clear G T he hP hn hz jF hs;go_enter func9,ntmps9;go_wp2;go_loopw [9] (fun q wr=>∃j:Nat,q=.int .i64 j∧j≤n∧Hid (∃S',P j S'∧TB af F m0 w0 S' L wr)) (fun q _=>n-(intOf q).toNat)
 case atStart=>exact⟨0,rfl,oX,HP⟩
 case round=>
  clear HP;obtain⟨j,rfl,hj,HP⟩:=hrel;by_cases dD:j<n
  ·obtain⟨S1,hP1,hT1⟩:=HP.out;obtain⟨b,off,rfl,hc⟩:=(CZ S1 wr hT1).at j bn0;obtain⟨z,hz⟩:=dC (zs.getD j 0);rw[←hz]at hc;have V3:zs[j]?=some z:=by rw[hz,yk,fv bn0];rfl
   by_cases h0:cE S1.ax=[]
   ·have HC:=ag (HE0.out j S1 wr z hP1 h0 hT1);have HPE:=ag hP1;have H0:=ag h0;clear HP hP1 hT1 hz V3 h0;go_wp2_with (go_at_call 25;refine HC.out.mono ?_;rintro e w2 ⟨rfl,T⟩;have HT:=ag T;clear T);go_ret;exact⟨⟨_,rfl⟩,j,S1,HPE,.inr H0,HT⟩
   ·obtain⟨g,S2,hg,hP2,hC⟩:=HE.out j S1 wr z hP1 V3 h0 hT1;have HC:=ag hC;have hg0:decide ((g:Int)<0)=false:=sX;have En:=ag hP2;clear HP hP1 hT1 hz V3 h0 hC hg hP2;go_wp2_with (go_at_call 25;refine HC.out.mono ?_;rintro e w2 ⟨rfl,T⟩;have HPN:Hid (∃S',P (j+1) S'∧TB af F m0 w0 S' L w2):=⟨S2,En,T⟩;clear T);go_roundw
    case rel=>exact⟨j+1,bl2,oX,HPN⟩
    case measure=>simp[intOf];omega
  ·obtain rfl:j=n:=by omega
   go_wp2;go_ret;obtain⟨S1,h1,h2⟩:=HP.out;exact⟨⟨_,rfl⟩,j,S1,h1,.inl rfl,h2⟩
end
end
namespace V
section
variable{w w' w2:Wd}{ls:List (List Nat)}{g z s C:Nat}{x x' xA y:bI}{sd:gn}{o:cu}
theorem GF(I:Inv w ls)(hx:w.gs[g]?=some x):x.wakes.length≤8:=by
 have:=jy 8 (x.wakes.map fun z=>z.toNat) ?_ ?_
 ·rw[ko]at this;exact this
 ·refine List.pairwise_map.2 ((I.pg g x hx).imp_of_mem fun {a b} ha hb G3 e=>?_);obtain⟨j,_,_,rfl,_⟩:=I.jn g x a hx ha;obtain⟨k,_,_,rfl,_⟩:=I.jn g x b hx hb;exact G3 (by simp only[oU]at e;rw[e])
 ·intro y hy;obtain⟨z,hz,rfl⟩:=List.mem_map.1 hy;obtain⟨j,u,_,rfl,hu,_⟩:=I.jn g x z hx hz;have:=cA hu;have:=I.n8;simp only[oU];omega
theorem T7(I:Inv w ls):Good w:=
 ⟨I.Eg.ok,I.Eg.aC,fun i r h=>I.au r (lf h),fun g x h=>by have:=GF I h;omega,I.aO⟩
theorem QV(I:Inv w ls)(hl:∀v∈w.list,0≤v∧v≤65535)(hd:0≤w.drawn∧w.drawn≤100000)(jf:eX w.av):Cp w g:=by
 refine⟨T7 I,⟨I.aq,I.aO,hl,hd,fun x hx hp=>?_,fun x hx hp=>?_⟩,fun x hx hp=>?_,fun x hx hp=>?_,?_,jf⟩
 ·have L:=I.loc g x hx;refine⟨L.JY.1,?_⟩;by_cases h:x.at_<x.ops.length
  ·rw[qd hx];exact .inl (L.ops _ (DI L.JY.1 h)).k
  ·exact .inr oX
 ·have L:=I.loc g x hx;have pM:=L.kp oX;rw[qd hx];rw[hp]at pM;have:((aP x).ai=1∨(aP x).ai=7)∨(aP x).ai=8:=by simpa[bG]using pM
  omega
 ·have L:=I.loc g x hx;by_cases hk:(aP x).ai=9
  ·obtain⟨a,b,c⟩:=L.oW hk oX oX oX oX;have hR:=L.ops _ (DI L.JY.1 (L.Uy oX));have:=hR.cl;by_cases hn:x.ae=24∨x.ae=25∨x.ae=26∨x.ae=27∨(x.ae=30∧(x.res.aJ=1∨x.res.aJ=2∨x.res.aJ=3))
   ·rw[c.none_ hn];simp
   ·have:=c.len hn;omega
  ·rw[L.yC hk];simp
 ·have L:=I.loc g x hx;have pM:=L.kp oX;rw[hp]at pM;have hk:(aP x).ai=9:=by simpa[bG]using pM
  obtain⟨a,b,c⟩:=L.oW hk oX oX oX oX;rw[qd hx];intro e;obtain⟨i,l,hi⟩:=List.exists_cons_of_ne_nil a.ne;obtain⟨_,cs,hc,_⟩:=a.ord i (by rw[hi];simp);rw[e]at hc;simp at hc
 ·have:=I.ax;have:=I.n8;omega
end
structure z8(p:List (List cu)):Prop where
 len:p.length≤8
 row:∀l∈p,l.length≤16
 ops:∀l∈p,∀o∈l,Vz o
def uk(p:List (List cu))(C:Nat)(m:Ex):Prop:=
 ∃(g j:Nat) (l:List cu) (o:cu),m.g=g∧m.op=j∧p[g]?=some l∧l[j]?=some o∧(o.ai≠9→m.res.case= -1∧m.fire= -1)∧
  (o.ai=9→(m.res.aJ=1∨m.res.aJ=3)∧m.fire=m.res.case∧0≤m.res.case∧(∃c,o.cases[m.res.case.toNat]?=some c∧1≤c.ch∧c.ch≤C∧(m.res.aJ=3→c.cF=true))∨
   m.res.aJ=2∧o.dG=true∧m.res.case= -1∨m.res.aJ=6∧o.dG=false∧m.point=0)
def jQ(l:List cu):bI:={ops:=l,aN:= -1,bY:= -1,br:= -1,bF:= -1,fire:= -1,res:={case:= -1}}
def gj(p:List (List cu))(N:Nat)(most:Int)(draws:List Int):Wd:=
 {dV:=N,eT:=most,av:=0,gs:=p.map jQ,ax:=List.replicate p.length (0,false),au:=[],aO:=[],aq:=[],aw:={aS:=List.replicate N {},bM:=List.replicate 16 {}},
  ah:=List.replicate N {},Eg:={size:=N,most:=most,aC:=List.replicate p.length [],aK:=[],cO:=0,bV:=List.replicate N false},list:=draws,drawn:=0,draws:=draws,done:=[]}
structure Row(p:List (List cu))(draws:List Int)(k:Nat)(S:Wd):Prop where
 inv:∃ls,Inv S ls
 av:S.av=k
 most:k≤900000
 drawn:0≤S.drawn∧S.drawn≤draws.length
 list:S.list=draws
 ops:S.gs.map (·.ops)=p
 len:S.done.length≤k
 marks:∀m∈S.done,uk p S.au.length m
section
variable{w w' w2 S S':Wd}{ls:List (List Nat)}{g z s C k:Nat}{x x' xA y:bI}{sd:gn}{o:cu}{p:List (List cu)}{draws:List Int}
theorem uk.more{C':Nat}{m:Ex}(h:uk p C m)(hC:C≤C'):uk p C' m:=by
 obtain⟨g,j,l,o,h1,h2,h3,h4,h5,h6⟩:=h;refine⟨g,j,l,o,h1,h2,h3,h4,h5,fun hk=>?_⟩;rcases h6 hk with⟨a,b,c,d,e,f,g,h⟩|h
 ·exact .inl ⟨a,b,c,d,e,f,oX,h⟩
 ·exact .inr h
theorem QW{l:List cu}(hl:l.length≤16)(ho:∀o∈l,Vz o):Loc C (jQ l):=by
 refine{JY:=⟨Int.le_refl 0,?_,hl⟩,ops:=ho,Uy:=fun h=>aX rfl h,kp:=fun h=>aX rfl h,pl:=⟨by simp[jQ],by simp[jQ]⟩,begin:=fun _=>⟨rfl,rfl,rfl,rfl,rfl,rfl,rfl,rfl,rfl,rfl⟩,cZ:=fun _ h=>aX rfl h,oW:=fun _ h=>aX rfl h,ready:=fun h=>bo0,uP:=fun _ _ _ _ _=>rfl,bY:=fun _ h=>bo0,tI:=fun _=>rfl,yC:=fun _=>rfl,rest:=fun _ _ s h=>bo0,br:=fun h=>by simp[aT,bm,jQ]at h,aN:=⟨by simp[jQ],fun _=>rfl⟩,plain:=fun _=>⟨rfl,rfl,rfl⟩,cO:=fun _ h=>bo0,hand:=fun h=>bo0,BE:=fun _ h=>bo0,bk:=fun _=>⟨fun h=>?_,fun h=>bo0⟩,dG:=fun h=>bo0,res:=fun _ h=>bo0,num:=by simp[jQ]}
 ·show(0:Int)≤(l.length:Nat);omega
 ·simp[aW,jQ]at h
theorem kA{k:Nat}{l:List Nat}{n:Nat}(h:(List.replicate n ([]:List Nat))[k]?=some l):l=[]:=by
 rw[uA]at h;split at h
 ·simp at h;exact h
 ·cases h
section
variable(P:z8 p){N:Nat}(hN:N≤64){most:Int}(hm:1≤most∧most≤16)
include P hN hm
theorem GG(draws:List Int):Inv (gj p N most draws) (List.replicate 16 []):=by
 have hg:∀(g:Nat) x,(gj p N most draws).gs[g]?=some x→∃l∈p,x=jQ l:=by intro g x h;obtain⟨l,h1,h2⟩:=List.mem_map.1 (lf h);exact⟨l,h1,h2.symm⟩
 have hw:∀{x:bI} {l:List cu},x=jQ l→¬aW x∧¬aT x∧¬bm x∧x.bY= -1∧x.aN= -1∧x.bA=[]∧x.wakes=[]∧x.ae=0:=by rintro x l rfl;simp[aW,aT,bm,jQ]
 refine⟨?_,?_,?_,rfl,rfl,?_,?_,?_,?_,?_,?_,?_,?_,?_,?_,?_,?_,?_,?_,?_,?_,?_,?_,?_,?_⟩
 ·simp[gj];exact P.len
 ·simp[gj]
 ·simp[gj]
 ·simp[gj]
 ·simp[gj];exact hN
 ·simp[gj]
 ·simp
 ·refine⟨⟨hm.1,hm.2,Int.le_refl 0,?_,?_,?_,?_,?_,?_,?_⟩,?_,?_,?_,?_,?_,?_,?_⟩
  ·simp[gj]
  ·simp[gj]
  ·simp[gj];exact hN
  ·simp[gj]
  ·intro c hc;simp[gj]at hc;rw[hc.2];simp
  ·simp[gj]
  ·intro c hc;simp[gj]at hc;rw[hc.2];simp
  ·simp[gj]
  ·simp[gj]
  ·simp[gj]
  ·intro c hc;simp[gj]at hc;rw[hc.2];simp[gj];omega
  ·simp[gj]
  ·intro x hx;simp[gj]at hx
  ·intro y _ h;have h:y<N:=by simpa[gj]using h
   show(List.replicate N false)[y]?=some false;rw[uA,aF h]
 ·refine⟨by simp[gj],?_,?_,?_,?_⟩
  ·intro k l h;have e:=kA h;subst e;have hk:k<16:=by have:=cA h;simpa using this
   show(List.replicate 16 ({}:Ct))[k]?=_;rw[uA,aF hk];rfl
  ·intro k a b x h;have e:=kA h;simp at e
  ·intro x t h _;have h:(List.replicate N ({}:nf))[x]?=some t:=h;rw[uA]at h;split at h
   ·exact(mx h).symm
   ·cases h
  ·intro k l h;rw[kA h];simp
 ·intro g x h;obtain⟨l,h1,rfl⟩:=hg g x h;exact QW (P.row l h1) (P.ops l h1)
 ·intro c h hc;simp[gj]at hc
 ·intro s sd h hl;have h:(List.replicate N ({}:gn))[s]?=some sd:=h;rw[uA]at h;split at h
  ·rw[←mx h]at hl;simp at hl
  ·cases h
 ·exact be3
 ·intro g x i s h e;obtain⟨l,h1,h2⟩:=hg g x h;obtain⟨a1,a2,a3,a4,a5,a6,a7,a8⟩:=hw h2;rw[a6]at e;simp at e
 ·intro k l s h hs;rw[kA h]at hs;simp at hs
 ·intro g x h e;obtain⟨l,h1,h2⟩:=hg g x h;exact aX e (hw h2).2.2.1
 ·intro g x h e;obtain⟨l,h1,h2⟩:=hg g x h;exact aX e (hw h2).2.1
 ·intro g x g' x' s s' sd sd' h e;obtain⟨l,h1,h2⟩:=hg g x h;exact aX e (hw h2).2.1
 ·exact be3
 ·intro g x s t h hb;obtain⟨l,h1,h2⟩:=hg g x h;obtain⟨a1,a2,a3,a4,a5,a6,a7,a8⟩:=hw h2;have hb:(List.replicate p.length ((0:Int),false))[g]?=some (s,t):=hb;rw[uA]at hb;split at hb
  ·simp at hb;obtain⟨rfl,rfl⟩:=hb;refine⟨oX,oX,sX,oX,oX,oX,oX⟩
  ·cases hb
 ·intro g x z h e;exact bh0
 ·intro g x h;obtain⟨l,h1,h2⟩:=hg g x h;rw[(hw h2).2.2.2.2.2.2.1];simp
 ·intro g x g' x' z h _ e;exact bh0
theorem GH(draws:List Int):Row p draws 0 (gj p N most draws):=by
 refine⟨⟨_,GG P hN hm draws⟩,rfl,oX,⟨Int.le_refl 0,?_⟩,rfl,?_,Nat.le_refl 0,fun m h=>by simp[gj]at h⟩
 ·show(0:Int)≤draws.length;omega
 ·show(p.map jQ).map (·.ops)=p;rw[List.map_map];conv=>rhs;rw[←List.map_id p]
  rfl
end
theorem T8(I:Inv w ls)(hx:w.gs[g]?=some x)(hp:x.ae=18)(ho:w.gs.map (·.ops)=p)(re:Int):uk p w.au.length (qu x g re):=by
 have L:=I.loc g x hx;have h1:=L.Uy oX;have h0:=L.JY;obtain⟨j,hj⟩:=pz h0.1;have kM:p[g]?=some x.ops:=by rw[←ho,na,hx];rfl
 have hoj:x.ops[j]?=some (aP x):=by unfold aP idx;rw[aF h0.1,hj];simp only[oU];obtain⟨o,ho⟩:∃o,x.ops[j]?=some o:=⟨_,fv oX⟩;rw[ho];rfl
 refine⟨g,j,x.ops,aP x,rfl,hj,kM,hoj,fun hk=>⟨(L.plain hk).2.1,(L.plain hk).1⟩,fun hk=>?_⟩;have R:=L.res hk oX;unfold cV at R;exact R
theorem aT7(h:Na w g):g<w.ax.length:=by
 obtain⟨t,h⟩:=h;exact(cA h)
theorem Row.next(R:Row p draws k S)(hd:draws.length≤100000)(hk:k<900000)(hr:bU S.ax g=0):∃S',uj {S with av:=S.av+1} g S'∧Row p draws (k+1) S':=by
 obtain⟨⟨ls,I⟩,h1,h2,h3,h4,h5,h6,h7⟩:=R
 have hb:g<S.ax.length:=by
  exact bb5
 have Ro:=I.ax;have hx:S.gs[g]?=some (S.gs[g]' oX):=fv oX;obtain⟨S',fM,a,b,c⟩:=QU I hx (SF hr hb) h3.1 bl3 oX;refine⟨S',a,⟨fM,b⟩,by rw[c.av,h1];omega,oX,?_,c.list.trans h4,c.ops.trans h5,?_,?_⟩
 ·have:=c.drawn;rw[h4]at this;omega
 ·rcases c.done with e|⟨_,e⟩
  ·rw[e];omega
  ·rw[e,py];simp;omega
 ·intro m hm;rcases c.done with e|⟨hp,e⟩
  ·rw[e]at hm;exact(h7 m hm).more c.au
  ·rw[e]at hm;rcases List.mem_append.1 hm with hm|hm
   ·exact(h7 m hm).more c.au
   ·rw[List.mem_singleton.1 hm];exact(T8 I hx hp h5 _).more c.au
theorem sF:∀(b:List (Int×Bool)) (i:Nat) (g:Int),g∈eY i b→∃j:Nat,g=((i+j:Nat):Int)∧∃t,b[j]?=some (0,t)
 | [],i,g,h=>by simp[eY]at h
 |(st,t)::l,i,g,h=>by
  unfold eY at h;split at h
  ·rename_i h0;rcases iL.1 h with h|h
   ·exact⟨0,bj3,t,by simp[h0]⟩
   ·exact bf0
  ·exact bf0
theorem sG{b:List (Int×Bool)}{g:Int}(h:g∈cE b):∃j:Nat,g=j∧bU b g=0:=by
 obtain⟨j,a,t,e⟩:=sF b 0 g h;have a:g=(j:Int):=by simpa using a
 subst a;refine⟨j,rfl,?_⟩;unfold bU idx;rw[aF oX];simp[e]
theorem au9(p:List (List cu))(draws:List Int)(hl:draws.length≤100000)(hd:∀v∈draws,0≤v∧v≤65535):T6 900000 (Row p draws):=by
 refine⟨fun k S R=>?_,fun k S R=>?_,fun k S g R h=>sG h,fun k S g R hk hg=>?_⟩
 ·obtain⟨ls,I⟩:=R.inv;have:=I.ax;have:=I.n8;omega
 ·have:=R.av;have:=R.most;omega
 ·obtain⟨ls,I⟩:=R.inv;have h3:=R.drawn;have h1:=R.av;exact QV (ls:=ls) (I.same rfl rfl rfl rfl rfl rfl rfl rfl) (by show ∀v∈S.list,_;rw[R.list];exact hd) ⟨h3.1,by show S.drawn≤100000;omega⟩ ⟨by show _≤S.av+1;omega,by show S.av+1≤_;omega⟩
end
end V
def sH(N n nd:Nat)(most:Int)(draws:List Int)(wb bB gB bL gL bS bD gD:Nat)(dd:Option Nat)(dc:Nat)(bP gP qP bQ gQ qQ:Nat):bH→Option oJ
 | .al=>some (some wb,0,[I N,I most,I 0,.slice none 0 0,.pointer (some ⟨bB,0,none⟩),.slice none 0 0,.slice none 0 0,.pointer (some ⟨bL,0,none⟩),.pointer (some ⟨bQ,0,none⟩),.slice (some ⟨bS,0,none⟩) N N,
   .pointer (some ⟨bP,0,none⟩),.pointer (some ⟨bD,0,none⟩),Value.slice (UH dd) nd dc,.slice none 0 0])
 | .dB=>some (some bB,0,[.slice (some ⟨gB,0,none⟩) n n])
 | .ax=>some (some gB,n,bT ry 0 (List.replicate n (0,false)))
 | .dY=>some (some bL,0,[.slice (some ⟨gL,0,none⟩) 0 0])
 | .dQ=>some (some gL,0,[])
 | .ah=>some (some bS,N,bT mg 0 (List.replicate N {}))
 | .gN=>some (some bD,0,[.slice (some ⟨gD,0,none⟩) nd nd,I 0])
 | .list=>some (some gD,nd,draws.map U)
 | .draws=>some (dd,dc,draws.map U)
 | .Eg=>some (some bP,0,[I N,I most,.slice (some ⟨gP,0,none⟩) n n,.slice none 0 0,I 0,.slice (some ⟨qP,0,none⟩) N N])
 | .aC=>some (some gP,n,List.replicate n (.slice none 0 0))
 | .bV=>some (some qP,N,(List.replicate N false).map B)
 | .aw=>some (some bQ,0,[.slice (some ⟨gQ,0,none⟩) N N,.slice (some ⟨qQ,0,none⟩) 16 16])
 | .aS=>some (some gQ,N,bT oD 0 (List.replicate N {}))
 | .bM=>some (some qQ,16,bT rG 0 (List.replicate 16 {}))
 |_=>none
theorem Aa{α β:Type}(f:Nat→β→List Value)(g:α→β):∀(l:List α) (i:Nat),bT f i (l.map g)=bT (fun i x=>f i (g x)) i l
 | [],_=>rfl
 |x::l,i=>by simp only[List.map_cons,bT,Aa f g l (i+1)]
theorem Ab{α:Type}(f:Nat→α→List Value)(v:Value)(a:α)(h:∀i,f i a=[v]):∀(n i:Nat),bT f i (List.replicate n a)=List.replicate n v
 |0,_=>rfl
 |n+1,i=>by simp only[List.replicate_succ,bT,h,Ab f v a h n (i+1),List.singleton_append]
def oS:bH→bH ⊕ CK
 | .ops g=> .inr (some (.ops g))
 | .cases g j=> .inr (some (.cases g j))
 |r=> .inl r
theorem T9:∀a b,oS a=oS b→a=b:=by
 intro a b h
 cases a<;>cases b<;>simp_all [oS]
theorem Ua{p:List (List cu)}{n N nd:Nat}{most:Int}{draws:List Int}{wb bB gB bL gL bS bD gD:Nat}{dd:Option Nat}{dc bP gP qP bQ gQ qQ:Nat}{lo lo1:Nat}{w0 w w1 w4:World}(hn:n=p.length)(fX:nd=draws.length)(h0:0<n){GI:CK→Option Nat}{GJ:CK→Nat}{cC:CK→List Value}(hC:fY lo1 w1 w4 p n 0 GI GJ cC){ga:Option Addr}{gc:Nat}{aV:bH ⊕ CK→Option Nat}{cap:bH ⊕ CK→Nat}{c:bH ⊕ CK→List Value}(X:rV lo w0 w p (Sum.inl .gs) (Sum.inl .al) (fun i l=>nG (GI (some (.ops i))) l.length (GJ (some (.ops i)))) wb (Sum.elim (fun k=>(sH N n nd most draws wb bB gB bL gL bS bD gD dd dc bP gP qP bQ gQ qQ k).bind (·.1)) GI) (Sum.elim eI Nl) (Sum.elim (fun k=>((sH N n nd most draws wb bB gB bL gL bS bD gD dd dc bP gP qP bQ gQ qQ k).map (·.2.1)).getD 0) GJ) (Sum.elim (fun k=>((sH N n nd most draws wb bB gB bL gL bS bD gD dd dc bP gP qP bQ gQ qQ k).map (·.2.2)).getD []) cC) n ga gc aV cap c)(Et:dd=none→nd=0∧dc=0):∃F m,F.al=wb∧bz lo F w m (V.gj p N most draws):=by
 subst fX
 obtain⟨gb,yp⟩:∃gb,aV (.inl .gs)=some gb:=by
  cases h:aV (.inl .gs) with
  |none=>have:=X.cU;rw[h]at this;simp[nG]at this;omega
  |some g=>exact⟨g,rfl⟩
 have O:=X.own.map oS T9;have hB:∀r:bH,r≠ .gs→aV (.inl r)=(sH N n draws.length most draws wb bB gB bL gL bS bD gD dd dc bP gP qP bQ gQ qQ r).bind (·.1):=fun r h=>(X.N7 (.inl r) bj3).1
 have hP:∀r:bH,r≠ .gs→cap (.inl r)=((sH N n draws.length most draws wb bB gB bL gL bS bD gD dd dc bP gP qP bQ gQ qQ r).map (·.2.1)).getD 0:=fun r h=>(X.N7 (.inl r) bj3).2
 have xJ:∀r:bH,r≠ .gs→r≠ .al→c (.inl r)=((sH N n draws.length most draws wb bB gB bL gL bS bD gD dd dc bP gP qP bQ gQ qQ r).map (·.2.2)).getD []:=fun r h h2=>X.Sn (.inl r) bj3 bp5
 have G5:∀k:CK,aV (.inr k)=GI k:=fun k=>(X.N7 (.inr k) sX).1
 have hP2:∀k:CK,cap (.inr k)=GJ k:=fun k=>(X.N7 (.inr k) sX).2
 have YQ:∀k:CK,c (.inr k)=cC k:=fun k=>X.Sn (.inr k) sX sX
 have hg:=X.cU;have mA:=X.row;have hwc:=X.wc;obtain⟨m,hm⟩:∃m:Mem,m=⟨fun r=>aV (oS r),fun r=>cap (oS r)⟩:=⟨_,rfl⟩;have ny:∀r,m.aV r=aV (oS r):=fun r=>by rw[hm]
 have G7:∀r,m.cap r=cap (oS r):=fun r=>by rw[hm]
 have kK:∀r:bH,oS r=.inl r→r≠ .gs→sH N n draws.length most draws wb bB gB bL gL bS bD gD dd dc bP gP qP bQ gQ qQ r=none→∀q,m.cU r q=.slice none 0 0:=fun r h1 h2 h3 q=>by apply Mem.j6;rw[ny,h1,hB r h2,h3];rfl
 have KR:∀(r:bH) (b:Nat),oS r=.inl r→r≠ .gs→(sH N n draws.length most draws wb bB gB bL gL bS bD gD dd dc bP gP qP bQ gQ qQ r).bind (·.1)=some b→m.aV r=some b:=fun r b h1 h2 h3=>by rw[ny,h1,hB r h2,h3]
 have rj:∀(r:bH) (q:Nat),oS r=.inl r→r≠ .gs→((sH N n draws.length most draws wb bB gB bL gL bS bD gD dd dc bP gP qP bQ gQ qQ r).map (·.2.1)).getD 0=q→m.cap r=q:=fun r q h1 h2 h3=>by rw[G7,h1,hP r h2,h3]
 have AP:∀(r:bH) (b q n':Nat),oS r=.inl r→r≠ .gs→(sH N n draws.length most draws wb bB gB bL gL bS bD gD dd dc bP gP qP bQ gQ qQ r).bind (·.1)=some b→((sH N n draws.length most draws wb bB gB bL gL bS bD gD dd dc bP gP qP bQ gQ qQ r).map (·.2.1)).getD 0=q→m.cU r n'=.slice (some ⟨b,0,none⟩) n' q:=fun r b q n' h1 h2 h3 h4=>by rw[Mem.de (KR r b h1 h2 h3),rj r q h1 h2 h4]
 have zD:∀(r:bH) (b:Nat),oS r=.inl r→r≠ .gs→(sH N n draws.length most draws wb bB gB bL gL bS bD gD dd dc bP gP qP bQ gQ qQ r).bind (·.1)=some b→m.ptr r=.pointer (some ⟨b,0,none⟩):=fun r b h1 h2 h3=>Mem.lz (KR r b h1 h2 h3)
 have hpg:∀i l,p[i]?=some l→p.getD i []=l:=fun i l h=>by rw[yk,h];rfl
 refine⟨{al:=wb,gs:=gb,dB:=bB,ax:=gB,dY:=bL,aw:=bQ,aS:=gQ,bM:=qQ,ah:=bS,Eg:=bP,aC:=gP,bV:=qP,gN:=bD},m,rfl,?_⟩
 have jM:∀r,aj m (V.gj p N most draws) r=c (oS r):=by
  intro r;have zd:∀g:Nat,(V.gj p N most draws).gs[g]?=(p[g]?).map V.jQ:=fun g=>na ..
  cases r with
  |al=>
   rw[show oS .al=.inl .al from rfl,hwc];have e1:m.cU .gs n=.slice ga n gc:=(by rw[qC,ny,G7];exact hg.symm);have e2:m.cU .draws draws.length=.slice (UH dd) draws.length dc:=(by rw[qC,ny,G7,Sw Et,show oS .draws=.inl .draws from rfl,hB _ sX,hP _ sX];rfl);show[I N,I most,I 0,m.cU .gs (p.map V.jQ).length,m.ptr .dB,m.cU .au 0,m.cU .aO 0,m.ptr .dY,m.ptr .aw,m.cU .ah (List.replicate N ({}:gn)).length,m.ptr .Eg,m.ptr .gN,m.cU .draws draws.length,m.cU .done 0]=_;rw[ko,←hn,e1,e2,vE,zD .dB bB rfl sX rfl,kK .au rfl sX rfl,kK .aO rfl sX rfl,zD .dY bL rfl sX rfl,zD .aw bQ rfl sX rfl,AP .ah bS N N rfl sX rfl rfl,zD .Eg bP rfl sX rfl,zD .gN bD rfl sX rfl,kK .done rfl sX rfl];rfl
  |gs=>
   show bT (gk m) 0 (p.map V.jQ)=_;rw[Aa,show oS .gs=.inl .gs from rfl,mA,hn,List.take_length];refine gX _ fun i l hl=>?_
   show[m.cU (.ops i) l.length,_,_,_,_,_,_,_,_,_,_,_,_,_,_]++_++[m.cU (.aH i) 0,m.cU (.aq i) 0,m.cU (.bA i) 0,m.cU (.wakes i) 0,_]=_;rw[kK (.aH i) rfl sX rfl,kK (.aq i) rfl sX rfl,kK (.bA i) rfl sX rfl,kK (.wakes i) rfl sX rfl,qC,ny,G7,show oS (.ops i)=.inr (some (.ops i))from rfl,G5,hP2];rfl
  |ops g=>
   rw[show oS (.ops g)=.inr (some (.ops g))from rfl,YQ];simp only[aj,zd]
   cases hg:p[g]? with
   |none=>
    rw[hC.own.none_ _ ?_];rfl;have:n≤g:=by rw[hn];exact List.getElem?_eq_none_iff.1 hg
    rcases Nat.lt_or_ge n g with h|h
    ·exact hC.more g h
    ·obtain rfl:g=n:=by omega
     exact hC.YP rfl
   |some l=>
    rw[hC.rows g (by rw[hn];exact fm hg),hpg g l hg];simp only[km];refine gX _ fun q o ho=>?_
    show[_,_,_,_,m.cU (.cases g q) _,_]=[_,_,_,_,_,_];rw[qC,ny,G7,show oS (.cases g q)=.inr (some (.cases g q))from rfl,G5,hP2]
  |cases g j=>
   rw[show oS (.cases g j)=.inr (some (.cases g j))from rfl,YQ];simp only[aj,zd]
   cases hg:p[g]? with
   |none=>
    rw[hC.own.none_ _ (hC.J7 g j ?_)];rfl;have:n≤g:=by rw[hn];exact List.getElem?_eq_none_iff.1 hg
    omega
   |some l=>
    have hgn:g<n:=(by rw[hn];exact fm hg);simp only[km]
    cases ho:l[j]? with
    |none=>
     rw[hC.own.none_ _ (hC.less g j (by rw[hpg g l hg];exact ho))];exact aZ7
    |some o=>
     rw[hC.rU g j o (.inl hgn) (by rw[hpg g l hg];exact ho)];exact aZ7
  |dB=>
   rw[show oS .dB=.inl .dB from rfl,xJ _ sX sX];show[m.cU .ax (List.replicate p.length ((0:Int),false)).length]=_;rw[vE,←hn,AP .ax gB n n rfl sX rfl rfl];rfl
  |ax=>
   rw[show oS .ax=.inl .ax from rfl,xJ _ sX sX];show bT ry 0 (List.replicate p.length ((0:Int),false))=_;rw[←hn];rfl
  |dY=>
   rw[show oS .dY=.inl .dY from rfl,xJ _ sX sX];show[m.cU .dQ 0]=_;rw[AP .dQ gL 0 0 rfl sX rfl rfl];rfl
  |aw=>
   rw[show oS .aw=.inl .aw from rfl,xJ _ sX sX];show[m.cU .aS (List.replicate N ({}:nf)).length,m.cU .bM (List.replicate 16 ({}:Ct)).length]=_;rw[vE,vE,AP .aS gQ N N rfl sX rfl rfl,AP .bM qQ 16 16 rfl sX rfl rfl];rfl
  |Eg=>
   rw[show oS .Eg=.inl .Eg from rfl,xJ _ sX sX];show[I N,I most,m.cU .aC (List.replicate p.length ([]:List Int)).length,m.cU .aK 0,I 0,m.cU .bV (List.replicate N false).length]=_;rw[vE,vE,←hn,AP .aC gP n n rfl sX rfl rfl,kK .aK rfl sX rfl,AP .bV qP N N rfl sX rfl rfl];rfl
  |aC=>
   rw[show oS .aC=.inl .aC from rfl,xJ _ sX sX];show bT (je m) 0 (List.replicate p.length ([]:List Int))=_;rw[Ab (je m) (.slice none 0 0) [] (fun i=>by show[m.cU (.cache i) 0]=_;rw[kK (.cache i) rfl sX rfl]),←hn];rfl
  |cache g=>
   rw[show oS (.cache g)=.inl (.cache g)from rfl,xJ _ sX sX];simp only[aj];show(match(List.replicate p.length ([]:List Int))[g]? with|some c=>c.map I|none=>[])=[];rw[uA];split
   ·rename_i h;split at h
    ·cases h;rfl
    ·cases h
   ·rfl
  |gN=>
   rw[show oS .gN=.inl .gN from rfl,xJ _ sX sX];show[m.cU .list draws.length,I 0]=_;rw[AP .list gD draws.length draws.length rfl sX rfl rfl];rfl
  |au=>
   rw[show oS .au=.inl .au from rfl,xJ _ sX sX];rfl
  |aO=>
   rw[show oS .aO=.inl .aO from rfl,xJ _ sX sX];rfl
  |dQ=>
   rw[show oS .dQ=.inl .dQ from rfl,xJ _ sX sX];rfl
  |aS=>
   rw[show oS .aS=.inl .aS from rfl,xJ _ sX sX];rfl
  |bM=>
   rw[show oS .bM=.inl .bM from rfl,xJ _ sX sX];rfl
  |ah=>
   rw[show oS .ah=.inl .ah from rfl,xJ _ sX sX];rfl
  |aK=>
   rw[show oS .aK=.inl .aK from rfl,xJ _ sX sX];rfl
  |bV=>
   rw[show oS .bV=.inl .bV from rfl,xJ _ sX sX];rfl
  |list=>
   rw[show oS .list=.inl .list from rfl,xJ _ sX sX];rfl
  |draws=>
   rw[show oS .draws=.inl .draws from rfl,xJ _ sX sX];rfl
  |done=>
   rw[show oS .done=.inl .done from rfl,xJ _ sX sX];rfl
  |aH g=>
   rw[show oS (.aH g)=.inl (.aH g)from rfl,xJ _ sX sX];exact ba1
  |aq g=>
   rw[show oS (.aq g)=.inl (.aq g)from rfl,xJ _ sX sX];exact ba1
  |bA g=>
   rw[show oS (.bA g)=.inl (.bA g)from rfl,xJ _ sX sX];exact ba1
  |wakes g=>
   rw[show oS (.wakes g)=.inl (.wakes g)from rfl,xJ _ sX sX];exact ba1
  |eU i=>
   rw[show oS (.eU i)=.inl (.eU i)from rfl,xJ _ sX sX];rfl
  |places i=>
   rw[show oS (.places i)=.inl (.places i)from rfl,xJ _ sX sX];rfl
 refine⟨fun r r' b h1 h2=>O.inj r r' b (by rw[ny]at h1;exact h1) (by rw[ny]at h2;exact h2),fun r b h=>?_,fun r h=>?_,?_⟩
 ·rw[ny]at h;obtain⟨h1,arr,t,a1,a2,a3,a4⟩:=O.lies r b h;rw[jM r,G7];refine⟨h1,arr,t,a1,a2,a3,fun q hq=>a4 q ?_⟩
  cases r<;>simp_all [eI,oS,Nl]
 ·rw[jM r];rw[ny]at h;exact O.none_ r h
 ·refine⟨KR _ _ rfl sX rfl,?_,KR _ _ rfl sX rfl,KR _ _ rfl sX rfl,KR _ _ rfl sX rfl,KR _ _ rfl sX rfl,KR _ _ rfl sX rfl,KR _ _ rfl sX rfl,KR _ _ rfl sX rfl,KR _ _ rfl sX rfl,KR _ _ rfl sX rfl,KR _ _ rfl sX rfl,KR _ _ rfl sX rfl⟩;rw[ny];exact yp
namespace V
section
variable{w w' w2:Wd}{ls:List (List Nat)}{g z s C:Nat}{x x' xA y y':bI}{sd sd':gn}{o:cu}{q q':bf}
theorem aT5{l:List Bool}{k:Nat}(hk:k<l.length){c:Int}:idx (l.set k true) c=some true↔c=k∨idx l c=some true:=by
 unfold idx;by_cases h:0≤c
 ·rw[aF h,aF h];by_cases e:c.toNat=k
  ·rw[e,nH hk];exact⟨fun _=> .inl oX,fun _=>rfl⟩
  ·rw[oA (dE e)];exact⟨.inr,fun h=>h.elim (fun h=>oX) id⟩
 ·rw[aE h,aE h];exact⟨fun h=>bk0,fun h'=>h'.elim (fun h=>oX) id⟩
section
variable(I:Inv w ls)(J:Inv2 w)(hx:w.gs[g]?=some x)(hk:(aP x).ai=6)
include I J hx hk
theorem aQ1(hp:x.ae=(21:Nat))(h:uD w g (aP x).ch=some w'):aH2 w w' g x:=by
 have L:=I.loc g x hx;have hm:=L.cZ oX oX oX oX oX;have hh:aL x (aP x).ch:=bv6
 obtain⟨m1,_⟩:=gz I hm;unfold uD at h;simp only[hx,m1,bW,eN,dt]at h;split at h
 ·cases h;exact aH3 I J hx _ 21 16
 ·simp only[cI,aH5]at h;obtain⟨w1,⟨c,hc,rfl⟩,h⟩:=h
  cases h
  have gm:w.aO.set ((aP x).ch-1).toNat true=c:=by
   unfold put at hc;split at hc
   ·exact mx hc
   ·cases hc
  subst gm;have cP:((aP x).ch-1).toNat<w.aO.length:=by have:=I.aO;omega
  have aI5:∀c,clo (({w with aO:=w.aO.set ((aP x).ch-1).toNat true}:Wd).ay g {x with point:=w.av,res:={aJ:=1,case:= -1,ok:=true},ae:=22}) c↔c=(aP x).ch∨clo w c:=fun c=>by have:=aT5 cP (c:=c-1);unfold clo;show idx (w.aO.set ((aP x).ch-1).toNat true) (c-1)=some true↔_;rw[this];exact⟨fun h=>h.imp (fun h=>oX) id,fun h=>h.imp (fun h=>oX) id⟩
  exact⟨{x with point:=w.av,res:={aJ:=1,case:= -1,ok:=true},ae:=22},di (x:=x) _ hx,bp6,fun j y' hj hy=>⟨y',by rw[show(({w with aO:=w.aO.set ((aP x).ch-1).toNat true}:Wd).ay g {x with point:=w.av,res:={aJ:=1,case:= -1,ok:=true},ae:=22}).gs=w.gs.set g {x with point:=w.av,res:={aJ:=1,case:= -1,ok:=true},ae:=22}from rfl,gd _ hj]at hy;exact hy,aL2.refl _ _⟩,rfl,fun c h=>(aI5 c).2 (.inr h),fun c h=>((aI5 c).1 h).elim (fun e=> .inr ⟨e▸hh,.inl rfl,e.symm⟩) .inl,fun k=> .inl (Int.le_refl _),fun c h=>aX h.1 oX,fun _ _ h=> .inl h,fun _ _ _ _ _ _ _ h=>h,fun _ sd h _ _=>⟨sd,h,rfl⟩,.inl rfl,fun h=>aX h bo1,fun m h=> .inl h,
   G2.pre L (J.g2 g x hx) bq6 (uy oX) rfl rfl (fun c h=>aX h (aI2 sX c)) (fun h=>bj5) (fun c h=>(aI5 c).2 (.inl h.2.symm)),aI4 21 22⟩
theorem aQ9(n:Nat)(hn:x.ae=n)(h23:n=22∨n=23)(hd:fZ w s=some {w with aw:=q'}){k:Nat}{l:List Nat}(hl:ls[k]?=some l)(hm:s∈l)(h1:w.ah[s]?=some sd)(h3:sd.g=z)(hy:w.gs[z]?=some y)(mh:z≠g)(hw:aW y)(hpm:y.aN= -1)(bO:sd.ch=(aP x).ch)(b:Bool):aH2 w (((({w with aw:=q'}:Wd).cJ s {sd with done:=false}).ay z {y with point:=w.av,fire:=sd.case,bk:=b,aN:=s}).ay g {x with br:= -1,t:=w.av,ae:=22,wakes:=x.wakes++[(z:Int)]}) g x:=by
 have L:=I.loc g x hx;have G:=J.g2 g x hx;obtain⟨q2,hq,r1,_,r3⟩:=aJ2 I (cA h1) rfl hd;have hq:q'=q2:=congrArg Wd.aw hq;subst hq;have hd3:=r3 k l hl hm;have aI5:clo w (aP x).ch:=G.cl _ ⟨oX,rfl⟩;refine aR2.eff (z:=z) (y:=y) (x':={x with br:= -1,t:=w.av,ae:=22,wakes:=x.wakes++[(z:Int)]}) (y':={y with point:=w.av,fire:=sd.case,bk:=b,aN:=s}) {hx:=hx,hy:=hy,ne:=mh,N7:=⟨rfl,.inl rfl,.inr hw,.inr fun t e=> .inr ⟨{sd with done:=false},?_,rfl,?_⟩⟩,q:=r1,dr:=fun c h=>⟨.inl rfl,h.2⟩,s1:=aK1 I h1 (fun _ j u hu _ hj e=>?_) rfl,s2:=aK2 (sd':={sd with done:=false}) h1 (fun _ _=>rfl) rfl,a4:=fun h=>aX h bo1,g2:=G2.aK5 I J hx ⟨bq6,uy oX⟩ rfl rfl rfl (fun c h=>aX h (aI2 sX c)) ⟨sX,fun _ c h=>by rw[←h.2];exact aI5⟩,Yu:= ?_}
 ·have e:(s:Int)=(t:Int):=e;obtain rfl:s=t:=by omega
  exact qN _ h1
 ·show clo w sd.ch;rw[bO];exact aI5
 ·obtain rfl:j=z:=by omega
  rw[hy]at hu;cases hu;omega
 ·have:=aO6 (x:=x) (x':={x with br:= -1,t:=w.av,ae:=22,wakes:=x.wakes++[(z:Int)]}) n 22 hn rfl rfl rfl ⟨oX,oX⟩ (a:=0) (b:=2) (by rcases h23 with rfl|rfl<;>simp only[loP,py,sV,List.length_nil]<;>omega);show V.Yu {x with br:= -1,t:=w.av,ae:=22,wakes:=x.wakes++[(z:Int)]}+Rn w.ax+3*Xr q'+1≤_;omega
end
theorem aM1(I:Inv w ls){kk:Int}(hk:0≤kk∧kk<16)(h:(w.aw.first kk).2=false):w.aw.len kk≤0:=by
 unfold bf.first at h;unfold bf.len
 cases e:idx w.aw.bM kk with
 |none=>simp
 |some l=>
  simp only[e]at h;split at h
  ·rename_i h0;simp only[km,Option.getD_some];omega
  ·cases h
section
variable(I:Inv w ls)(J:Inv2 w)(hx:w.gs[g]?=some x)(hk:(aP x).ai=6)
include I J hx hk
theorem aR4(hp:x.ae=(22:Nat))(h:qt w g (aP x).ch=some w'):aH2 w w' g x:=by
 have L:=I.loc g x hx;have G:=J.g2 g x hx;have hc:=L.cZ oX oX oX oX oX;have oO:¬aW x:=uy oX;have hma:¬aw0 x:=bq6
 have hc8:=I.c8;have aI5:clo w (aP x).ch:=G.cl _ ⟨oX,rfl⟩
 have Wv:(sK w (aP x).ch).2=false∧(w.aw.first (2*(aP x).ch-2)).2=false∧(w.aw.first (2*(aP x).ch-1)).2=false∨∃kk:Int,(kk=2*(aP x).ch-2∨kk=2*(aP x).ch-1)∧sK w (aP x).ch=w.aw.first kk∧(w.aw.first kk).2=true:=by
  unfold sK;by_cases h1:(w.aw.first (2*(aP x).ch-2)).2=true
  ·rw[aF h1];exact .inr ⟨_,.inl rfl,rfl,h1⟩
  ·rw[aE h1]
   cases h2:(w.aw.first (2*(aP x).ch-1)).2 with
   |false=>exact .inl ⟨rfl,br9,rfl⟩
   |true=>exact .inr ⟨_,.inr rfl,rfl,h2⟩
 unfold qt at h;rcases Wv with⟨hf,f1,f2⟩|⟨kk,kE,hf,hf2⟩
 ·simp only[hx,hf,dt,bW,eN]at h;rw[wa hx]at h;cases h;have l1:=aM1 I oX f1;have l2:=aM1 I oX f2;exact Own.eff (x':={x with ae:=16}) {hx:=hx,dr:=fun c h=> .inr (by rw[←h.2];exact⟨l1,l2⟩),g2:=G2.pre L G hma oO rfl rfl (fun c h=>aX h (aI2 sX c)) (fun h=>bj5) (fun c h=>aX h.1 sX),Yu:=aI4 22 16}
 ·rcases Kr I (kk:=kk) oX with h0|⟨s,z,l,sd,y,h1,h2,h3,h4,h5,h6,h7,h8,h9,ph⟩
  ·rw[h0]at hf2;cases hf2
  ·have bO:=Ks kE ph;rw[hf,h1]at h;simp only[hx,h4,eQ,aH6,dF,bW,eN]at h;by_cases lR:0≤sd.case
   ·rw[aF lR]at h;cases h;exact aH3 I J hx {x with br:=s,ae:=23} 22 23 (hd:=fun c h=>⟨.inr rfl,h.2⟩) (cl:=fun c h=>by rw[←h.2];exact aI5)
   ·rw[aE lR]at h
    have jA:(aP y).ai≠9:=by
     exact bd5
    have oF:sd.case= -1:=by
     rcases h8 with⟨_,_,h,_⟩|⟨h,_⟩
     ·exact h
     ·exact aX h jA
    rw[aF oF]at h
    have SS:aW y∧y.aN= -1:=by
     exact ba4
    have mh:z≠g:=(by rintro rfl;rw[hx]at h7;cases h7;exact oO SS.1);have N5:=I.aS;have h64:=I.JZ;have mj:=cA h4;obtain⟨q',_,a,b,c⟩:=I.q.drop (x:=s) oX oX;have Ut:fZ w s=some {w with aw:=q'}:=(by unfold fZ;rw[a];rfl);have eE:(w.ay g {x with br:=s}).gs[g]?=some {x with br:=s}:=di _ hx;rw[Kv (q':=q') (sd:=sd) (z:=z) (y:=y) eE rfl (ky Ut rfl) h4 h6 bu3 mh (by have:=I.sj hx;simp only;omega)]at h;have F:=aQ9 I J hx hk 22 hp (.inl rfl) Ut h2 h3 h4 h6 h7 mh SS.1 SS.2 bO y.bk
    have e:(((({(w.ay g {x with br:=s})with aw:=q'}:Wd).cJ s {sd with done:=false}).ay z {y with point:=w.av,fire:=sd.case,aN:=s}).ay g {x with br:= -1,t:=w.av,wakes:=x.wakes++[(z:Int)]})=
      (((({w with aw:=q'}:Wd).cJ s {sd with done:=false}).ay z {y with point:=w.av,fire:=sd.case,bk:=y.bk,aN:=s}).ay g {x with br:= -1,t:=w.av,ae:=22,wakes:=x.wakes++[(z:Int)]}):=by
     rw[show(22:Int)=x.ae from hp.symm];show(((({w with aw:=q'}:Wd).cJ s {sd with done:=false}).ay g {x with br:=s}).ay z _).ay g _=_;rw[sR _ (dE mh),cY]
    rw[←e]at F
    cases h;exact F
theorem aN1(hp:x.ae=(23:Nat))(h:ly w g=some w'):aH2 w w' g x:=by
 have L:=I.loc g x hx;have G:=J.g2 g x hx;have oO:¬aW x:=uy oX;have hma:¬aw0 x:=bq6
 have rl:∀sd,¬eV x sd:=Ca oX;have aI5:clo w (aP x).ch:=G.cl _ ⟨oX,rfl⟩;obtain⟨s,k,l,sd,a1,a2,a3,a4,a5,a6⟩:=I.look g x hx (.inr (.inr hp));obtain⟨sd',z,y,b1,b2,b3,b4,b5,b6,b7⟩:=I.EJ k l s a2 a3;rw[a4]at b1;cases b1;have mh:z≠g:=bm6
 have oz:(aP y).ai=9:=by
  exact ba8
 have U1:=I.loc z y b4;have bO:sd.ch=(aP x).ch:=by unfold aL at a6;rw[aE oX]at a6;exact a6.2
 have mj:s<w.ah.length:=cA a4;have hn:nat? x.br=some s:=bu8
 have N5:=I.aS;have h64:=I.JZ;obtain⟨q',_,qa,qb,qc⟩:=I.q.drop (x:=s) oX oX;have Ut:fZ w s=some {w with aw:=q'}:=by unfold fZ;rw[qa];rfl
 unfold ly at h;simp only[hx,hn,eQ,a4,b3,b4,bW,eN]at h;rw[aE mh]at h
 cases B9:y.bk with
 |true=>
  simp only[B9,dt,Ut,eN]at h
  cases h;obtain⟨q2,hq,r1,_,r3⟩:=aJ2 I mj rfl Ut;have hq:q'=q2:=congrArg Wd.aw hq;subst hq;have hd3:=r3 k l a2 a3;exact Own.eff (x':={x with br:= -1,ae:=22}) {hx:=hx,q:=fun k=> .inl (r1 k),dr:=fun c h=> .inl ⟨.inl rfl,h.2⟩,g2:=G2.pre L G hma oO rfl rfl (fun c h=>aX h (aI2 sX c)) (fun h=>bj5) (fun c h=>by rw[←h.2];exact aI5),Yu:=aI4 23 22}
 |false=>
  simp only[B9,nW,dF]at h
  have hw:aW y∧y.aN= -1:=by
   exact aB2
  have eE:(w.ay z {y with bk:=true}).gs[g]?=some x:=bm1
  rw[Kv (q':=q') (sd:=sd) (z:=z) (y:={y with bk:=true}) eE a1 (ky Ut rfl) a4 b3 (di _ b4) mh bo9]at h;simp only[eN]at h;rw[wa (x:={x with t:=w.av,wakes:=x.wakes++[(z:Int)],br:= -1}) (di (x:=x) _ bq8)]at h;have F:=aQ9 I J hx hk 23 hp (.inr rfl) Ut a2 a3 a4 b3 b4 mh hw.1 hw.2 bO true
  have e:((((({(w.ay z {y with bk:=true})with aw:=q'}:Wd).cJ s {sd with done:=false}).ay z {y with bk:=true,point:=w.av,fire:=sd.case,aN:=s}).ay g {x with t:=w.av,wakes:=x.wakes++[(z:Int)],br:= -1}).ay g {x with t:=w.av,wakes:=x.wakes++[(z:Int)],br:= -1,ae:=22})=
    (((({w with aw:=q'}:Wd).cJ s {sd with done:=false}).ay z {y with point:=w.av,fire:=sd.case,bk:=true,aN:=s}).ay g {x with br:= -1,t:=w.av,ae:=22,wakes:=x.wakes++[(z:Int)]}):=by
   exact be2
  rw[←e]at F
  cases h;exact F
end
end
section
variable{w w' w2 W:Wd}{ls:List (List Nat)}{g z s C:Nat}{x x' xA y y':bI}{sd sd':gn}{o:cu}{q q':bf}
theorem aN2(hk:(aP x).ai=9){c:Int}:aH0 x c↔25≤x.ae∧x.ae≤29∧∃(j:Nat) (i:Int) (cs:Case),x.aH[j]?=some i∧(aP x).cases[i.toNat]?=some cs∧cs.ch=c∧(28≤x.ae∨(j:Int)<x.k):=by
 unfold aH0;constructor
 ·rintro(⟨h|h,_⟩|⟨_,h⟩)
  ·omega
  ·omega
  ·exact h
 ·exact fun h=> .inr ⟨hk,h⟩
section
variable(I:Inv w ls)(J:Inv2 w)(hx:w.gs[g]?=some x)(hk:(aP x).ai=9)
include I J hx hk
theorem aJ7(n p:Nat)(hn:x.ae=n)(hp:n=24∧p=25∨n=31∧p=32)(h:jt w g p=some w'):w'=w∧Blk w x∨aH2 w w' g x:=by
 have L:=I.loc g x hx;have G:=J.g2 g x hx;obtain⟨s1,s2,s3⟩:=L.oW hk oX oX oX oX;have kE:=s2.1 oX;have hg:g<w.gs.length:=cA hx;obtain⟨l,hl⟩:∃l,x.aq[x.k.toNat]?=some l:=⟨_,fv oX⟩;have IF:=s1.lk l (lf hl);have ei:idx x.aq x.k=some l:=by unfold idx;rw[aF kE.1];exact hl
 obtain⟨o,h1,h2⟩:=za I hg IF;unfold jt at h;simp only[hx,ei,bW,eN,h2]at h;split at h
 ·cases h
 by_cases e:o= -1
 ·simp only[aF e,aH6,dF]at h;split at h
  ·cases h
  cases h;right;by_cases j7:x.k+1=x.aq.length
  ·simp only[aF j7];rcases hp with⟨rfl,rfl⟩|⟨rfl,rfl⟩
   ·refine aH3 I J hx {x with k:=0,ae:=25} 24 25 (nc:=fun c h=>?_);obtain⟨_,_,j,i,cs,_,_,_,h5⟩:=(aN2 (by exact hk)).1 h;simp only at h5;omega
   ·exact Own.eff (x':={x with k:=0,ae:=32}) {hx:=hx,g2:=G.keep rfl rfl rfl rfl rfl rfl rfl (fun _ _=>rfl) (fun _=> .inr ⟨hk,sX⟩) (fun _=> .inr ⟨hk,oX⟩) sX,Yu:=aI4 31 32 (p:=br0)}
  ·simp only[aE j7];rcases hp with⟨rfl,rfl⟩|⟨rfl,rfl⟩
   ·exact aH3 I J hx {x with k:=x.k+1} 24 24 (hn':=hn) (hc:=fun h=>bk4) (nc:=fun c h=>aX h (aI2 bj2 c)) (eU:=fun h=>bj6) (cl:=fun c h=>aX h.1 bj2)
   ·exact Own.eff (x':={x with k:=x.k+1}) {hx:=hx,g2:=G.keep rfl rfl rfl rfl rfl rfl rfl (fun _ _=>rfl) (fun h=>h) (fun h=>h) bj2,Yu:=aI4 31 31 (h':=hn) (p:=br0)}
 ·simp only[aE e]at h
  cases h;exact .inl ⟨rfl,l,o,IF.1,IF.2,h1,e,.inr ⟨hk,oX,ei⟩⟩
theorem aP1(hp:x.ae=(25:Nat))(r:nP)(k0:Int)(e1:w'.gs=w.gs.set g {x with res:=r,point:=w.av,fire:=r.case,k:=x.aq.length,ae:=30})(e2:w'.aO=w.aO)(e3:w'.aw=w.aw)(e4:∀(c:Nat) r,w.au[c]?=some r→w'.au[c]?=some r∨aL x ((c:Int)+1))(e5:w'.ah=w.ah)(e6:w'.done=w.done)(e7:w'.ax=w.ax):aH2 w w' g x:=by
 obtain⟨s1,s2,s3⟩:=(I.loc g x hx).oW hk oX oX oX oX;have kE:=s2.2.2 oX;exact aH3 I J hx {x with res:=r,point:=w.av,fire:=r.case,k:=x.aq.length,ae:=30} 25 30 (e1:=e1) (e2:=e2) (e3:=e3) (e4:=e4) (e5:=e5) (e6:=e6) (e7:=by rw[e7])
theorem aJ8(hp:x.ae=(25:Nat)){i:Nat}{c:Case}(h2:x.aH[x.k.toNat]?=some (i:Int))(h4:(aP x).cases[i]?=some c)(Ko:¬clo w c.ch)(e1:W.gs=w.gs)(e2:W.aO=w.aO)(e3:W.aw=w.aw)(e4:∀(c:Nat) r,w.au[c]?=some r→W.au[c]?=some r∨aL x ((c:Int)+1))(e5:W.ah=w.ah)(e6:W.done=w.done)(e7:W.ax=w.ax)(e8:W.av=w.av)(h:j3 W g (aP x)=some w'):aH2 w w' g x:=by
 have G:=J.g2 g x hx;obtain⟨s1,s2,s3⟩:=(I.loc g x hx).oW hk oX oX oX oX;have kE:=s2.2.2 oX;have hxW:W.gs[g]?=some x:=by rw[e1];exact hx
 have saw:∀(j:Nat) (i':Int) (cs:Case),x.aH[j]?=some i'→(aP x).cases[i'.toNat]?=some cs→(j:Int)≤x.k→¬clo w cs.ch:=fun j i' cs a b d=>by
  by_cases hj:(j:Int)<x.k
  ·exact G.nc _ ((aN2 hk).2 ⟨oX,oX,j,i',cs,a,b,rfl,.inr hj⟩)
  ·obtain rfl:j=x.k.toNat:=by omega
   rw[h2]at a;cases a;rw[oU,h4]at b;cases b;exact Ko
 unfold j3 at h;simp only[hxW,bW,eN]at h;split at h
 ·cases h
 split at h
 ·cases h;refine aH3 I J hx {x with k:=x.k+1} 25 25 (e1:=by show W.gs.set g _=_;rw[e1]) (e2:=e2) (e3:=e3) (e4:=e4) (e5:=e5) (e6:=e6) (e7:=by show Rn W.ax=_;rw[e7]) (hn':=hp) (hc:=fun h=>bk4) (nc:=fun c' h=>?_) (eU:=fun h=>bj6) (cl:=fun c h=>aX h.1 bj2)
  obtain⟨_,_,j,i',cs,a,b,rfl,h5⟩:=(aN2 (by exact hk)).1 h;simp only at h5;exact saw j i' cs a b oX
 ·rename_i dD;split at h
  ·unfold te at h;rw[qK (di (x:=x) {x with k:=x.k+1} hxW),cY]at h
   cases h;exact aP1 I J hx hk hp {aJ:=2,case:= -1} 0 (by show W.gs.set g _=_;rw[e1,show(W.ay g {x with k:=x.k+1}).av=w.av from e8];rfl) e2 e3 e4 e5 e6 e7
  ·cases h;refine aH3 I J hx {x with bA:=List.replicate (aP x).cases.length (-1),k:=0,ae:=28} 25 28 (e1:=by show W.gs.set g _=_;rw[e1]) (e2:=e2) (e3:=e3) (e4:=e4) (e5:=e5) (e6:=e6) (e7:=by show Rn W.ax=_;rw[e7]) (nc:=fun c' h=>?_)
   obtain⟨_,_,j,i',cs,a,b,rfl,h5⟩:=(aN2 (by exact hk)).1 h;have a':x.aH[j]?=some i':=a;have:=cA a';exact saw j i' cs a b oX
end
theorem aU0(hk:(aP x).ai=9)(hp:25≤x.ae∧x.ae≤27)(e1:x'.ops=x.ops)(e2:x'.at_=x.at_)(e3:x'.aH=x.aH)(e4:x'.k=x.k)(h:x'.ae<28)(c:Int)(hc:aH0 x' c):aH0 x c:=by
 have eg:=oM e1 e2;obtain⟨_,_,j,i,cs,a,b,d,f⟩:=(aN2 bs2).1 hc;rw[e3]at a;rw[eg]at b;rw[e4]at f;exact(aN2 hk).2 ⟨oX,oX,j,i,cs,a,b,d,.inr oX⟩
section
variable(I:Inv w ls)(J:Inv2 w)(hx:w.gs[g]?=some x)
include I J hx
theorem aK7(hs:Na w g)(hk:(aP x).ai=9)(hp:x.ae=(25:Nat)){c:Int}(hc:c∈x.aq){kk:Int}(kE:kk=2*c-2∨kk=2*c-1):Mach.take w g kk 26 27=some (w,false)∨∃w1,Mach.take w g kk 26 27=some (w1,true)∧∀w',eH w1 g=some w'→aH2 w w' g x:=by
 have L:=I.loc g x hx;obtain⟨s1,s2,s3⟩:=L.oW hk oX oX oX oX;have hkx:=s2.2.2 oX;obtain⟨i,c',h1,h2,h3,h4,h5,h6,h7,Dn⟩:=oq I hx s1 hkx;rcases zq I hx hs hk hp hc kE with e|⟨w1,e,_⟩
 ·exact .inl e
 refine .inr ⟨w1,e,fun w' hf=>?_⟩;rcases aO7 I J hx bl1 (by unfold bm;omega) (Ca oX) oX (s1.lk c hc) (KA hk oX hc) kE 26 27 25 hp dX (fun x' e1 e2 e3 e4 e5 c hc=>aU0 hk oX e1 e2 e3 e4 oX c hc) bk1 bk1 e with t|⟨s,rfl,t⟩|⟨x1,g1,g2,g3,t⟩
 ·cases t.1
 ·unfold eH at hf;simp only[mH hx,bW,eN]at hf;rw[aE sX]at hf
  cases hf;exact t
 ·exact bd1
theorem aR5(hk:(aP x).ai=9)(hp:x.ae=(26:Nat))(h:(rD w g 25 27).bind (eH · g)=some w'):aH2 w w' g x:=by
 have L:=I.loc g x hx;obtain⟨s1,s2,s3⟩:=L.oW hk oX oX oX oX;have hkx:=s2.2.2 oX;obtain⟨i,c',h1,h2,h3,h4,h5,h6,h7,Dn⟩:=oq I hx s1 hkx;obtain⟨w1,e,hf⟩:=cI.1 h;rcases aQ7 I J hx bl1 (.inr (.inl hp)) (Ca oX) oX 25 27 26 hp dX (fun x' e1 e2 e3 e4 e5 c hc=>aU0 hk oX e1 e2 e3 e4 oX c hc) bk1 bk1 e with⟨x1,g1,g2,t⟩|⟨x1,g1,g2,g3,t⟩
 ·unfold eH at hf;simp only[g1,bW,eN]at hf;rw[aE (by rw[g2];decide)]at hf
  cases hf;exact t
 ·exact bd1
theorem aS8(hs:Na w g)(hk:(aP x).ai=9)(hp:x.ae=(25:Nat))(h:uE w g (aP x)=some w'):aH2 w w' g x:=by
 have L:=I.loc g x hx;obtain⟨s1,s2,s3⟩:=L.oW hk oX oX oX oX;have kE:=s2.2.2 oX;obtain⟨i,c,h1,h2,h3,h4,h5,h6,h7,Dn⟩:=oq I hx s1 kE;obtain⟨b,hb,gm⟩:=Fs I ⟨h5,h6⟩;obtain⟨hm,r,hr,ok⟩:=gz I ⟨h5,h6⟩;have hh:=KA hk oX h7;have aP2:∀r':Ring,∀(c1:Nat) r,w.au[c1]?=some r→(w.dZ (c.ch-1).toNat r').au[c1]?=some r∨aL x ((c1:Int)+1):=fun r'=>aJ3 (w:=w) (c0:=(c.ch-1).toNat) (r':=r') (x:=x) bt0
 have r9:∀(W:Wd),W.gs=w.gs→W.aO=w.aO→W.aw=w.aw→(∀(c:Nat) r,w.au[c]?=some r→W.au[c]?=some r∨aL x ((c:Int)+1))→W.ah=w.ah→W.done=w.done→W.ax=w.ax→W.av=w.av→∀(rr:nP) w',te W g rr=some w'→aH2 w w' g x:=by
  intro W e1 e2 e3 e4 e5 e6 e7 e8 rr w' h;unfold te at h;rw[qK (x:=x) (by rw[e1];exact hx)]at h
  cases h;exact aP1 I J hx hk hp rr 0 (by show W.gs.set g _=_;rw[e1,e8];rfl) e2 e3 e4 e5 e6 e7
 unfold uE at h;simp only[hx,h1,h3,bW,eN]at h
 cases Ar:c.cF with
 |true=>
  simp only[Ar,dt]at h;unfold j4 at h;simp only[hb,bW,eN]at h
  cases b with
  |true=>
   simp only[dt,eN,nW,dF]at h;exact r9 w rfl rfl rfl (fun _ _ h=> .inl h) rfl rfl rfl rfl _ _ h
  |false=>
   have Ko:¬clo w c.ch:=fun h=>by unfold clo at h;rw[hb]at h;cases h
   simp only[nW,dF]at h;rcases aK7 I J hx hs hk hp h7 (kk:=2*c.ch-2) (.inl rfl)with ht|⟨w1,ht,t1⟩
   ·simp only[ht,eN,nW,dF,aH8,hr,bW]at h
    cases eK:(r.put c.v).2 with
    |true=>
     simp only[eK,dt,eN,nW,dF]at h;exact r9 (w.dZ (c.ch-1).toNat (r.put c.v).1) rfl rfl rfl (aP2 _) rfl rfl rfl rfl _ _ h
    |false=>
     simp only[eK,nW,dF,eN]at h;exact aJ8 (W:=(w.dZ (c.ch-1).toNat (r.put c.v).1)) I J hx hk hp h2 h4 Ko rfl rfl rfl (aP2 _) rfl rfl rfl rfl h
   ·simp only[ht,eN,dt]at h;exact t1 _ h
 |false=>
  simp only[Ar,nW,dF]at h;unfold j5 at h;rcases aK7 I J hx hs hk hp h7 (kk:=2*c.ch-1) (.inr rfl)with ht|⟨w1,ht,t1⟩
  ·simp only[ht,eN,nW,dF,getRing,hr,bW]at h
   cases eK:r.get.2.2 with
   |true=>
    simp only[eK,dt,eN,nW,dF]at h;exact bg1
   |false=>
    have ff:idx (w.dZ (c.ch-1).toNat r.get.1).aO (c.ch-1)=some b:=hb;simp only[eK,nW,dF,ff,eN]at h
    cases b with
    |true=>
     simp only[dt,eN,nW,dF]at h;exact bg1
    |false=>
     have Ko:¬clo w c.ch:=fun h=>by unfold clo at h;rw[hb]at h;cases h
     simp only[nW,dF,eN]at h;exact aJ8 (W:=(w.dZ (c.ch-1).toNat r.get.1)) I J hx hk hp h2 h4 Ko rfl rfl rfl (aP2 _) rfl rfl rfl rfl h
  ·simp only[ht,bW,eN,dt]at h;exact t1 _ h
theorem aN3(hs:Na w g)(hk:(aP x).ai=9)(hp:x.ae=(27:Nat))(h:jJ w g (aP x)=some w'):aH2 w w' g x:=by
 have L:=I.loc g x hx;obtain⟨s1,s2,s3⟩:=L.oW hk oX oX oX oX;have kE:=s2.2.2 oX;obtain⟨i,c,h1,h2,h3,h4,h5,h6,h7,Dn⟩:=oq I hx s1 kE;obtain⟨s,ON⟩:=pz (L.br (.inl (.inr hp)));obtain⟨z,sd,y,q',d1,d2,d3,d4,d5,d6,F⟩:=aK6 I J hx hs (.inr hp) ON;have hn:nat? x.br=some s:=bq3
 have V5:=I.sj hx;have hh:=KA hk oX h7;obtain⟨hm,r,hr,ok⟩:=gz I ⟨h5,h6⟩;have EU:∀{w':Wd} (rr:nP) (wk:List Int),w'.aO=w.aO→G2 w' {x with wakes:=wk,br:= -1,res:=rr,k:=x.aq.length,ae:=30}:=fun rr wk e=>G2.aK5 I J hx bl1 e rfl rfl (fun c h=>aX h (aI2 sX c)) sX
 unfold jJ at h;simp only[hx,h1,hn,h3,d1,bW,eN]at h
 cases Ar:c.cF with
 |true=>
  simp only[Ar,dt,d2,eN]at h;rw[sh (w:=({w with aw:=q'}:Wd).cJ s {sd with v:=c.v}) (z:=z) (y:=y) (sd:={sd with v:=c.v}) hx (qN _ d2) d3 d5 d4 oX]at h;simp only[eN]at h;rw[qK (x:={x with wakes:=x.wakes++[(z:Int)],br:= -1}) (di (x:=x) _ bl9),cY]at h
  cases h;exact F (sd':={sd with v:=c.v,done:=true}) {x with wakes:=x.wakes++[(z:Int)],br:= -1,res:={aJ:=1,case:=i,ok:=true,v:=0},k:=x.aq.length,ae:=30} rfl (by simp[Wd.ay,Wd.cJ]) rfl rfl rfl rfl rfl (fun _ _ h=> .inl h) rfl rfl bo1 (EU _ _ rfl) (aT4 27 30)
 |false=>
  simp only[Ar,nW,dF,cI]at h;obtain⟨⟨W,v⟩,hW,W2,h2,h⟩:=h;have Ht:cZ ({w with aw:=q'}:Wd) c.ch=true:=hm;have hT:kq ({w with aw:=q'}:Wd) c.ch=some ((c.ch-1).toNat,r):=hr;unfold ik at hW;simp only[Ht,hT,d2,aH6,dF,bW,eN]at hW
  have eW:W.gs=w.gs∧W.ah=w.ah∧W.aw=q'∧W.aO=w.aO∧W.ax=w.ax∧W.done=w.done∧(∀(c:Nat) r,w.au[c]?=some r→W.au[c]?=some r∨aL x ((c:Int)+1)):=by
   split at hW
   ·cases hW;exact⟨rfl,rfl,rfl,rfl,rfl,rfl,fun _ _ h=> .inl h⟩
   ·cases hW;exact⟨rfl,rfl,rfl,rfl,rfl,rfl,aJ3 (w:=w) bt0⟩
  obtain⟨f1,f2,f3,f4,f5,f6,f7⟩:=eW;rw[sh (w:=W) (z:=z) (y:=y) (sd:=sd) (x:=x) (by rw[f1];exact hx) (by rw[f2];exact d2) d3 (by rw[f1];exact d5) d4 oX]at h2
  cases h2;rw[qK (x:={x with wakes:=x.wakes++[(z:Int)],br:= -1}) (di (x:=x) _ bt3),cY]at h
  cases h;exact F (sd':={sd with done:=true}) {x with wakes:=x.wakes++[(z:Int)],br:= -1,res:={aJ:=1,case:=i,ok:=true,v:=v},k:=x.aq.length,ae:=30} (by rw[←f1];rfl) (by rw[←f2];rfl) rfl f3 f4 f5 f6 f7 rfl rfl bo1 (EU _ _ f4) (aT4 27 30)
end
theorem aS9(hk:(aP x).ai=9)(hp:28≤x.ae∧x.ae≤29)(e1:x'.ops=x.ops)(e2:x'.at_=x.at_)(e3:x'.aH=x.aH)(c:Int)(hc:aH0 x' c):aH0 x c:=by
 have eg:=oM e1 e2;obtain⟨_,_,j,i,cs,a,b,d,f⟩:=(aN2 bs2).1 hc;rw[e3]at a;rw[eg]at b;exact(aN2 hk).2 ⟨oX,oX,j,i,cs,a,b,d,.inl hp.1⟩
section
variable(I:Inv w ls)(J:Inv2 w)(hx:w.gs[g]?=some x)
include I J hx
theorem aL6(hk:(aP x).ai=9)(hp:x.ae=(28:Nat))(h:ju w g (aP x)=some w'):aH2 w w' g x:=by
 have L:=I.loc g x hx;obtain⟨s1,s2,s3⟩:=L.oW hk oX oX oX oX;have kE:=s2.2.2 oX;obtain⟨i,c,h1,h2,h3,h4,h5,h6,h7,Dn⟩:=oq I hx s1 kE;have hg:g<w.gs.length:=cA hx;have FM:i<x.bA.length:=bv9
 unfold ju at h;simp only[hx,bW,eN]at h
 cases eK:(w.Eg.take g).2.2 with
 |true=>
  obtain⟨j,Nf,e1,e2,_,e3⟩:=I.ZV hg eK {cK:=true,g:=g,ch:=c.ch,case:=i,cF:=c.cF,v:=c.v};simp only[eK,aH6,dF,h1,h3,e1,eQ,e2,IY FM,Dn,eN]at h;have t1:=aK1 (w':=(({w with Eg:=(w.Eg.take g).1}:Wd).cJ j {cK:=true,g:=g,ch:=c.ch,case:=i,cF:=c.cF,v:=c.v})) (g:=g) I e2 (fun hl=>aX hl fun hl=>e3 g x hx Nf e2 hl) rfl;have t2:=aK2 (w':=(({w with Eg:=(w.Eg.take g).1}:Wd).cJ j {cK:=true,g:=g,ch:=c.ch,case:=i,cF:=c.cF,v:=c.v})) (g:=g) (x:=x) e2 (fun hl=>aX hl fun hl=>e3 g x hx Nf e2 hl) rfl;by_cases hl:(x.aH.length:Int)≤x.k+1
  ·simp only[aF hl]at h
   cases h;exact Own.eff (x':={x with bA:=x.bA.set i j,k:=0,ae:=29}) {hx:=hx,s1:=t1,s2:=t2,g2:=G2.aK5 I J hx bl1 rfl rfl rfl (aS9 hk oX rfl rfl rfl) sX,Yu:=aI4 28 29}
  ·simp only[aE hl]at h
   cases h;exact Own.eff (x':={x with bA:=x.bA.set i j,k:=x.k+1}) {hx:=hx,s1:=t1,s2:=t2,a4:=(fun h=>bk4),g2:=G2.aK5 I J hx bl1 rfl rfl rfl (aS9 hk oX rfl rfl rfl) ⟨bj2,fun h=>bj6⟩,Yu:=aI4 28 28 (h':=hp)}
 |false=>
  simp only[eK,dt]at h
  cases h;exact aH3 I J hx {x with res:={x.res with aJ:=6},k:=x.aq.length,ae:=30} 28 30
theorem aK8(hk:(aP x).ai=9)(hp:x.ae=(29:Nat))(h:gK w g (aP x)=some w'):aH2 w w' g x:=by
 have L:=I.loc g x hx;have G:=J.g2 g x hx;obtain⟨s1,s2,s3⟩:=L.oW hk oX oX oX oX;have kE:=s2.2.2 oX;obtain⟨i,c,h1,h2,h3,h4,h5,h6,h7,Dn⟩:=oq I hx s1 kE;have hc8:=I.c8;obtain⟨v,hv,Rv⟩:=s3.all oX i (lf h2);rw[oU]at hv;have ei:idx x.bA i=some v:=bv7
 have aU4:¬clo w c.ch:=G.nc _ ((aN2 hk).2 ⟨oX,oX,_,_,c,h2,by simpa using h4,rfl,.inl oX⟩);unfold gK at h;simp only[hx,h1,h3,ei,bW,eN,Dn,aH6,dF,cI]at h;obtain⟨w1,hw,h⟩:=h;obtain⟨q',rfl,p1,p2⟩:=aO3 hw;have hq:∀k:Int,q'.len k≤w.aw.len k∨¬clo w (k / 2+1):=fun k=>(p1 k).imp id fun e=>by rw[e,show(if c.cF=true then 2*c.ch-1 else 2*c.ch-2) / 2+1=c.ch by split<;>omega];exact aU4
 have hnm:¬aw0 x:=bq6
 have ha0:x.bJ=0:=Classical.byContradiction fun h=>hnm (G.early h)
 by_cases hl:(x.aH.length:Int)≤x.k+1
 ·simp only[aF hl]at h
  cases h;have h0:=L.BE hk oX;exact Own.eff (x':={x with bJ:=w.av,k:=x.aq.length,ae:=30}) {hx:=hx,q:=hq,g2:=⟨fun c h=>aX h (aI2 sX c),fun _ h=>bj5,fun _=> .inr ⟨hk,.inl ⟨rfl,h0⟩⟩,fun _ h=>aX h (by unfold aI3;simp),G.par,fun c h=>aX h.1 sX⟩,Yu:=aI4 29 30}
 ·simp only[aE hl]at h
  cases h;refine Own.eff (x':={x with k:=x.k+1}) {hx:=hx,q:=hq,a4:=(fun h=>bk4),g2:=⟨fun c h=>G.nc c (aS9 (x':={x with k:=x.k+1}) hk oX rfl rfl rfl c h),fun _ h=>bj6,fun h=>aX ha0 h,fun h=>aX ha0 h,G.par,fun c h=>aX h.1 bj2⟩,Yu:=aI4 29 29 (h':=hp)}
theorem aN4(hk:(aP x).ai=9)(hp:x.ae=(30:Nat))(h:iH w g=some w'):aH2 w w' g x:=by
 have L:=I.loc g x hx;have G:=J.g2 g x hx;obtain⟨s1,s2,s3⟩:=L.oW hk oX oX oX oX;have kE:=s2.2.1 oX;obtain⟨l,hl,El,pJ,hu⟩:=tq I hx s1 kE;have oN:¬aI3 x:=by unfold aI3;omega
 unfold iH at h;simp only[hu,bW,eN]at h;by_cases h1:1<x.k
 ·have hf:decide (x.k-1≤0)=false:=by simp;omega
  rw[hf]at h;simp only[dt]at h
  cases h;exact Own.eff (x':={x with k:=x.k-1}) {hx:=hx,g2:=G.keep rfl rfl rfl rfl rfl rfl rfl (fun _ _=>rfl) (fun h=>h) (fun h=>h) bj2,Yu:=aI4 30 30 (h':=hp) (p:=bo4)}
 ·have jg:x.k=1:=by omega
  have hf:decide (x.k-1≤0)=true:=bi8
  rw[hf]at h;simp only[aH6,dF]at h;have eE:((free w (l-1) g).ay g {x with k:=x.k-1}).gs[g]?=some {x with k:=x.k-1}:=di (x:=x) _ hx;rw[qK eE,cY]at h
  cases h;have hke:x.k-1=0:=oX
  have fin:∀p:Nat,(p=13∧x.res.aJ=0∨(p=34∨p=17∨p=18)∧x.res.aJ≠0)→aH2 w ((free w (l-1) g).ay g {x with k:=x.k-1,ae:=p}) g x:=by
   intro p hpp;have kM:(p:Int)=13∨(p:Int)=34∨(p:Int)=17∨(p:Int)=18:=oX;refine Own.eff (x':={x with k:=x.k-1,ae:=p}) {hx:=hx,a4:=(fun h=>bk4),g2:=⟨fun c h=>aX h (aI2 bj2 c),fun _ h=>bj6,fun ha=> .inr ⟨hk,bj2⟩,fun ha hw=>?_,G.par,fun c h=>aX h.1 bj2⟩,Yu:= ?_}
   ·have hma:=G.early ha;exfalso;unfold aw0 at hma;unfold aI3 at hw;have hw:(aP x).ai≠9∧15≤(p:Int)∧(p:Int)≤18∨(aP x).ai=9∧(31≤(p:Int)∨(p:Int)=17∨(p:Int)=18):=hw;omega
   ·have:=aO6 (x:=x) (x':={x with k:=x.k-1,ae:=p}) 30 p hp rfl rfl rfl ⟨oX,oX⟩ (a:=1) (b:=0) (by
     rcases hpp with⟨rfl,_⟩|⟨rfl|rfl|rfl,_⟩<;>simp only[loP]<;>omega)
    show V.Yu {x with k:=x.k-1,ae:=p}+Rn w.ax+3*Xr w.aw+1≤_;omega
  have eA:fG {x with k:=x.k-1}=fG x:=rfl;simp only[eA];unfold fG hJ;by_cases hc:x.res.aJ=0
  ·simp only[aF hc];exact fin 13 (.inl ⟨rfl,hc⟩)
  ·simp only[aE hc];split
   ·exact fin 34 (.inr ⟨.inl rfl,hc⟩)
   ·split
    ·exact fin 18 (.inr ⟨.inr (.inr rfl),hc⟩)
    ·exact fin 17 (.inr ⟨.inr (.inl rfl),hc⟩)
theorem aR6(hs:Na w g)(hk:(aP x).ai=9)(hp:x.ae=(14:Nat))(h:uF w g=some w'):aH2 w w' g x:=by
 obtain⟨s,sd,h1,h2,h3,h4,h5,h6⟩:=I.Wr hx hs hp;have hn:nat? x.aN=some s:=by rw[h1];exact eQ s
 unfold uF at h;simp only[hx,hn,h2,bW,eN]at h
 cases h;have G:=J.g2 g x hx;refine Own.eff (x':={x with res:=mK sd,aN:= -1,k:=0,ae:=31}) {hx:=hx,g2:=⟨fun c h=>aX h (aI2 sX c),fun _ h=>bj5,fun _=> .inr ⟨hk,sX⟩,fun _ _=>?_,fun s h=>bj6,fun c h=>aX h.1 sX⟩,Yu:=aI4 14 31}
 rcases G.par s h1 with h|⟨AU,a,b,c⟩
 ·exact .inl h
 ·right;rw[h2]at a;cases a
  obtain⟨_,h0,_,cs,fa,e1,e2⟩:(aP x).ai=9∧0≤sd.case∧x.bA[sd.case.toNat]?=some (s:Int)∧∃c,(aP x).cases[sd.case.toNat]?=some c∧sd.ch=c.ch∧sd.cF=c.cF:=by
   rcases h5 with⟨h,_⟩|h
   ·exact aX hk h
   ·exact h
  refine⟨cs,.inr ⟨hk,by show 0≤x.fire;rw[h6];exact h0,by show(aP x).cases[x.fire.toNat]?=_;rw[h6];exact fa⟩,by rw[←e1];exact c,fun Ar=>?_,fun Ar=>?_⟩
  ·show(mK sd).aJ=3;unfold mK;rw[b,e2,Ar];rfl
  ·show(mK sd).aJ=1∧(mK sd).ok=false∧(mK sd).v=0;unfold mK;rw[b,e2,Ar];exact⟨rfl,rfl,rfl⟩
theorem aT0(hk:(aP x).ai=9)(hp:x.ae=(32:Nat))(h:uG w g=some w'):aH2 w w' g x:=by
 have L:=I.loc g x hx;have G:=J.g2 g x hx;obtain⟨s1,s2,s3⟩:=L.oW hk oX oX oX oX;have kE:=s2.2.2 oX;obtain⟨i,c,h1,h2,h3,h4,h5,h6,h7,Dn⟩:=oq I hx s1 kE;obtain⟨v,hv,Rv⟩:=s3.all oX i (lf h2);obtain⟨s,PF⟩:=pz Rv;subst PF;rw[oU]at hv;obtain⟨sd,a1,a2,a3,a4,a5⟩:=I.bA g x i s hx hv;have ei:idx x.bA i=some (s:Int):=bv7
 unfold uG at h;simp only[hx,h1,ei,bW,eN,Dn,aH6,dF,cI]at h;obtain⟨w1,hw,h⟩:=h;obtain⟨q',rfl,r1,r2,_⟩:=aJ2 I (cA a1) rfl hw;by_cases hl:(x.aH.length:Int)≤x.k+1
 ·simp only[aF hl]at h
  cases h;exact Own.eff (x':={x with k:=x.aq.length,ae:=33}) {hx:=hx,q:=fun k=> .inl (r1 k),g2:=G.keep rfl rfl rfl rfl rfl rfl rfl (fun _ _=>rfl) (fun _=> .inr ⟨hk,sX⟩) (fun _=> .inr ⟨hk,oX⟩) sX,Yu:=aI4 32 33}
 ·simp only[aE hl]at h
  cases h;exact Own.eff (x':={x with k:=x.k+1}) {hx:=hx,q:=fun k=> .inl (r1 k),a4:=(fun h=>bk4),g2:=G.keep rfl rfl rfl rfl rfl rfl rfl (fun _ _=>rfl) (fun h=>h) (fun h=>h) bj2,Yu:=aI4 32 32 (h':=hp)}
theorem aN5(hk:(aP x).ai=9)(hp:x.ae=(33:Nat))(h:((Ys w g).bind fun p=>if p.2 then yes (cD p.1 g 34)else some (p.1,true))=some (w',true)):aH2 w w' g x:=by
 have L:=I.loc g x hx;have G:=J.g2 g x hx;obtain⟨s1,s2,s3⟩:=L.oW hk oX oX oX oX;have kE:=s2.2.1 oX;obtain⟨l,hl,El,pJ,hu⟩:=tq I hx s1 kE;simp only[hu,bW,eN]at h;by_cases h1:1<x.k
 ·have hf:decide (x.k-1≤0)=false:=by simp;omega
  rw[hf]at h;simp only[nW,dF]at h
  cases h;exact Own.eff (x':={x with k:=x.k-1}) {hx:=hx,a4:=(fun h=>bk4),g2:=G.keep rfl rfl rfl rfl rfl rfl rfl (fun _ _=>rfl) (fun h=>h) (fun h=>h) bj2,Yu:=aI4 33 33 (h':=hp) (p:=bo4)}
 ·have jg:x.k=1:=by omega
  have hf:decide (x.k-1≤0)=true:=bi8
  rw[hf]at h;have eE:((free w (l-1) g).ay g {x with k:=x.k-1}).gs[g]?=some {x with k:=x.k-1}:=di (x:=x) _ hx;simp only[dt,yes]at h;rw[wa eE,cY]at h
  cases h;exact Own.eff (x':={x with k:=x.k-1,ae:=34}) {hx:=hx,g2:=G.keep rfl rfl rfl rfl rfl rfl rfl (fun _ _=>rfl) (fun _=> .inr ⟨hk,sX⟩) (fun _=> .inr ⟨hk,oX⟩) sX,Yu:=aI4 33 34 (p:=bo4)}
theorem aN6(hk:(aP x).ai=9)(hp:x.ae=(34:Nat))(h:jK w g=some w'):aH2 w w' g x:=by
 have L:=I.loc g x hx;have G:=J.g2 g x hx;obtain⟨s1,s2,s3⟩:=L.oW hk oX oX oX oX;have kE:=s2.2.2 oX;obtain⟨i,c,h1,h2,h3,h4,h5,h6,h7,Dn⟩:=oq I hx s1 kE;have oN:¬aW x:=uy oX;have FM:i<x.bA.length:=bv9
 have oE:=L.aN.2 oN;obtain⟨v,hv⟩:∃v,x.bA[i]?=some v:=⟨_,fv FM⟩;have ei:idx x.bA i=some v:=bv7
 unfold jK at h;simp only[hx,h1,ei,bW,eN,IY FM,Dn,aH6,dF]at h
 obtain⟨w1,jk,h⟩:∃w1:Wd,(w1.gs=w.gs∧w1.aO=w.aO∧w1.aw=w.aw∧w1.au=w.au∧w1.ax=w.ax∧w1.done=w.done∧(∀(j:Nat) y (s:Nat) sd,j≠g→w.gs[j]?=some y→y.aN=(s:Int)→w.ah[s]?=some sd→w1.ah[s]?=some sd)∧(∀(s:Nat) sd,w.ah[s]?=some sd→sd.cK=true→sd.g≠g∨aW x→∃sd',w1.ah[s]?=some sd'∧sd'.g=sd.g))∧
   some (w1.ay g (if(x.aH.length:Int)≤x.k+1 then{x with k:=0,bA:=[],ae:=hJ x}else{x with bA:=x.bA.set i (-1),k:=x.k+1}))=some w':=by
  by_cases hv1:v= -1
  ·rw[aF hv1]at h;exact⟨w,⟨rfl,rfl,rfl,rfl,rfl,rfl,fun _ _ _ _ _ _ _ h=>h,fun _ sd h _ _=>⟨sd,h,rfl⟩⟩,h⟩
  ·rw[aE hv1]at h;simp only[cI]at h;obtain⟨w1,⟨j,hj,_,_,hw⟩,h⟩:=h
   cases hw;have hvj:v=j:=(by unfold nat? at hj;split at hj<;>simp at hj;omega);subst hvj;obtain⟨sd,a1,a2,a3,a4,a5⟩:=I.bA g x i j hx hv;exact⟨({w with Eg:=(w.Eg.nh g (j:Int)).1}:Wd).cJ j {},⟨rfl,rfl,rfl,rfl,rfl,rfl,aK1 (sd':={}) I a1 (fun _ j u hu hj e=>oX) rfl,aK2 (sd':={}) a1 (fun _ e=>by rcases e with e|e;exact aX a3 e;exact aX e oN) rfl⟩,h⟩
 obtain⟨f1,f2,f3,f4,f5,f6,f7,f8⟩:=jk
 have fin:∀(x':bI) (n:Nat),x'.ae=n→(n=34∨n=17∨n=18)→x'.ops=x.ops→x'.at_=x.at_→x'.bJ=x.bJ→x'.aN=x.aN→x'.bF=x.bF→x'.fire=x.fire→x'.res=x.res→loP n x'.aH.length x'.aq.length x'.k.toNat+x'.wakes.length+1≤loP 34 x.aH.length x.aq.length x.k.toNat+x.wakes.length→aH2 w (w1.ay g x') g x:=by
  intro x' n hn hn' e0 e1 e2 e3 e4 e5 e6 XR;have eg:=oM e0 e1;refine Own.eff (x':=x') {hx:=hx,gs:=by show w1.gs.set g x'=_;rw[f1],ops:=e0,aO:=f2,q:=fun k=> .inl (by show w1.aw.len k≤_;rw[f3];exact Int.le_refl _),r:=fun c r h=> .inl (by show w1.au[c]?=_;rw[f4];exact h),s1:=f7,s2:=f8,wi:=.inl e4,a4:=fun h=>bk2,done:=f6,g2:= ?_,Yu:= ?_}
  ·exact G.keep e2 e3 e4 e5 e6 eg f2 (fun s h=>oX) (fun _=> .inr ⟨bs2,oX⟩) (fun _=> .inr ⟨hk,oX⟩) oX oX
  ·have:=aO6 (x:=x) (x':=x') 34 n hp hn e0 e1 ⟨oX,oX⟩ (a:=1) (b:=0) XR;show V.Yu x'+Rn w1.ax+3*Xr w1.aw+1≤_;rw[f3,f5];omega
 by_cases hl:(x.aH.length:Int)≤x.k+1
 ·simp only[aF hl]at h
  cases h;unfold hJ;by_cases J0:x.wakes=[]
  ·simp only[aF J0];exact fin _ 18 rfl oX rfl rfl rfl rfl rfl rfl rfl bk1
  ·simp only[aE J0];exact fin _ 17 rfl oX rfl rfl rfl rfl rfl rfl rfl bk1
 ·simp only[aE hl]at h
  cases h;exact fin _ 34 hp oX rfl rfl rfl rfl rfl rfl rfl bk1
end
theorem aT1(h0:0≤x.at_)(h1:x.at_<x.ops.length):aH7 (x.ops.drop x.at_.toNat)=cost (aP x)+aH7 (x.ops.drop (x.at_.toNat+1)):=by
 have hl:x.at_.toNat<x.ops.length:=oX
 have e:aP x=x.ops[x.at_.toNat]:=by unfold aP idx;rw[aF h0,fv hl];rfl
 unfold aH7;rw[List.drop_eq_getElem_cons hl,e,List.map_cons,List.sum_cons]
section
variable(I:Inv w ls)(J:Inv2 w)(hx:w.gs[g]?=some x)(hp:x.ae=0)(ks:x.at_<x.ops.length)
include I J hx hp ks
theorem aI0(x':bI)(n:Nat)(e1:w'.gs=w.gs.set g x':=by rfl)(hn:x'.ae=n:=by rfl)(kM:n=1∨n=4∨n=18∨n=19∨n=20∨n=24:=by omega)(e2:w'.aO=w.aO:=by rfl)(e3:w'.aw=w.aw:=by rfl)(e4:w'.au=w.au:=by rfl)(e5:w'.ah=w.ah:=by rfl)(e6:w'.done=w.done:=by rfl)(e7:Rn w'.ax=Rn w.ax:=by rfl)(eo:x'.ops=x.ops:=by rfl)(et:x'.at_=x.at_:=by rfl)(ea:x'.bJ=0:=by rfl)(ep:x'.aN= -1:=by rfl)(ew:x'.wakes=[]:=by rfl)(pt:loP n x'.aH.length x'.aq.length x'.k.toNat+1≤cost (aP x):=by(simp only[loP,bu,cost,List.length_nil];omega)):aH2 w w' g x:=by
 have L:=I.loc g x hx;have h0:=L.JY;refine Own.eff (x':=x') {hx:=hx,gs:=e1,ops:=eo,aO:=e2,q:=fun k=> .inl (by rw[e3];exact Int.le_refl _),dr:=fun c h=>aX h.1 oX,r:=fun c r h=> .inl (by rw[e4];exact h),s1:=fun _ _ _ _ _ _ _ h=>by rw[e5];exact h,s2:=fun _ sd h _ _=>⟨sd,by rw[e5];exact h,rfl⟩,wi:=.inr (.inr (uy oX)),a4:=fun h=>bk2,done:=e6,g2:=⟨fun c h=>aX h (aI2 oX c),fun _ h=>oX,fun h=>aX ea h,fun h=>aX ea h,fun s h=>oX,fun c h=>aX h.1 oX⟩,Yu:= ?_};have e:V.Yu x'=aH7 (x.ops.drop (x.at_.toNat+1))+loP n x'.aH.length x'.aq.length x'.k.toNat:=by rw[aO5 n hn oX,eo,et,ew];rfl
 have e':V.Yu x=aH7 (x.ops.drop x.at_.toNat)+x.wakes.length:=by unfold V.Yu;rw[aF hp]
 rw[e,e',aT1 h0.1 ks,e3,e7];omega
theorem aQ2(hk:(aP x).ai≠9)(h:jT w g=some w'):aH2 w w' g x:=by
 obtain⟨ho,hR⟩:=KC I hx ks;have kE:=hR.k;have hxC:(w.ay g {bu x with call:=w.av}).gs[g]?=some {bu x with call:=w.av}:=di (x:=x) _ hx;have pk:∀y:bI,Rn ({(w.ay g {bu x with call:=w.av})with ax:=(tD (w.ay g {bu x with call:=w.av}).ax g).1}:Wd).ax=Rn w.ax:=fun y=>aK4 _ _
 unfold jT cD Nc never cD fL at h;simp only[hx,bW,eN,ho,aE (by omega:¬(x.ops.length:Int)≤x.at_),hxC,km]at h;by_cases h1:(aP x).ai=1∨(aP x).ai=7∨(aP x).ai=8
 ·rw[aF h1,cY]at h
  cases h;exact aI0 I J hx hp ks {bu x with call:=w.av,ae:=20} 20
 ·rw[aE h1]at h;by_cases h2:(aP x).ai=2∨(aP x).ai=3
  ·rw[aF h2]at h;split at h
   ·exact bg7
   ·cases h;exact aI0 I J hx hp ks {bu x with call:=w.av,ae:=19} 19 (e1:=bp6) (e7:=aK4 _ _)
  ·rw[aE h2]at h;by_cases h3:(aP x).ai=4∨(aP x).ai=5
   ·rw[aF h3]at h;split at h
    ·rw[cY]at h;cases h;exact aI0 I J hx hp ks {bu x with call:=w.av,ae:=1} 1
    ·rw[cY]at h;cases h;exact aI0 I J hx hp ks {bu x with call:=w.av,res:={aJ:=2,case:= -1},point:=w.av,ae:=18} 18
   ·rw[aE h3,aF oX]at h;split at h
    ·exact bg7
    ·rw[cY]at h;cases h;exact aI0 I J hx hp ks {bu x with call:=w.av,res:={aJ:=5,case:= -1},point:=w.av,ae:=18} 18
end
theorem aR7{ds:List Int}{cs:List (Int×Int)}(h:kr w o ds=some cs):cs.length≤ds.length:=by
 unfold kr at h;obtain⟨l,h1,rfl⟩:=aH5.1 h;have:=Gr h1;have h2:=(qO ds ds.length).length_eq;have h3:=List.length_filter_le (fun p:Int×Int=>cZ w p.2) l;simp at h2;omega
section
variable(I:Inv w ls)(J:Inv2 w)(hx:w.gs[g]?=some x)
include I J hx
theorem aQ3(hp:x.ae=0)(ks:x.at_<x.ops.length)(hk:(aP x).ai=9)(hd:0≤w.drawn)(Rp:kJ w.drawn=true)(h:jT w g=some w'):aH2 w w' g x:=by
 obtain⟨ho,hR⟩:=KC I hx ks;have hxC:(w.ay g {bu x with call:=w.av}).gs[g]?=some {bu x with call:=w.av}:=di (x:=x) _ hx;have e:jT w g=gM (w.ay g {bu x with call:=w.av}) g (aP x):=bq7
 rw[e]at h;unfold gM at h;have hdn:(w.ay g {bu x with call:=w.av}).drawn=w.drawn:=rfl;have hli:(w.ay g {bu x with call:=w.av}).list=w.list:=rfl;rw[hdn,hli,aE (by rw[Rp];simp;omega)]at h;simp only[bW,cI]at h;obtain⟨cs,fa,y,hy,h⟩:=h;rw[hxC]at hy;cases hy;have oF:=aR7 fa;rw[sr]at oF;have PK:∀y:bI,(w.gs.set g y)[g]?=some y:=fun y=>di (x:=x) y hx
 by_cases hc:cs≠[]
 ·rw[aF hc]at h;simp only[cD,fL,Wd.ay,my,PK,km]at h
  cases h;refine aI0 I J hx hp ks {bu x with call:=w.av,aH:=cs.map (·.1),aq:=kf (cs.map (·.2)),ae:=24} 24 (pt:= ?_)
  have h2:=Gs (cs.map (·.2));simp only[ko]at h2;simp only[loP,bu,cost,ko];omega
 ·rw[aE hc]at h;split at h
  ·simp only[Nc,fL,Wd.ay,my,PK,km]at h
   cases h;exact aI0 I J hx hp ks {bu x with call:=w.av,aH:=cs.map (·.1),aq:=kf (cs.map (·.2)),res:={aJ:=2,case:= -1},point:=w.av,ae:=18} 18
  ·simp only[never,cD,fL,Wd.ay,my,PK,km]at h
   cases h;exact aI0 I J hx hp ks {bu x with call:=w.av,aH:=cs.map (·.1),aq:=kf (cs.map (·.2)),ae:=19} 19 (e7:=aK4 _ _)
theorem aT6(hs:Na w g)(hp:x.ae=0)(ks:(x.ops.length:Int)≤x.at_)(h:jT w g=some w'):aH2 w w' g x:=by
 unfold jT at h;simp only[hx,bW,eN,ks,dt]at h
 cases h;have G:=J.g2 g x hx;have hu:=aU3 hs;exact Own.eff (x':=x) {hx:=hx,gs:=(congrArg Wd.gs (aQ5 hx)).symm,dr:=fun c h=> .inl h,a4:=fun h=>bk2,g2:=⟨G.nc,G.eU,G.early,G.late,G.par,G.cl⟩,Yu:=by show V.Yu x+Rn (Av w.ax g).1+3*Xr w.aw+1≤_;omega}
theorem aR8(hs:Na w g)(hp:x.ae=0)(hd:0≤w.drawn)(Rp:kJ w.drawn=true)(h:jT w g=some w'):aH2 w w' g x:=by
 by_cases ks:x.at_<x.ops.length
 ·by_cases hk:(aP x).ai=9
  ·exact aQ3 I J hx hp ks hk hd Rp h
  ·exact aQ2 I J hx hp ks hk h
 ·exact aT6 I J hx hs hp oX h
theorem aU5(hp:x.ae=(20:Nat))(h:KZ w g=some w'):aH2 w w' g x:=by
 have L:=I.loc g x hx;have G:=J.g2 g x hx;obtain⟨ho,hR⟩:=pj I hx oX;have hk:=L.kp oX;have oz:(aP x).ai≠9:=by intro h;rw[h,hp]at hk;simp[bG]at hk
 have aV6:¬((aP x).ai=2∨(aP x).ai=3):=by rintro(h|h)<;>rw[h,hp]at hk<;>simp[bG]at hk
 have hm:¬aw0 x∧¬aW x:=⟨bq6,uy oX⟩;unfold KZ at h;simp only[ho,hx,bW,eN]at h;split at h
 ·unfold makeChan at h;split at h
  ·simp only[eN]at h
   cases h;exact aH3 I J hx {x with res:={aJ:=7,case:= -1},point:=w.av,ae:=18} 20 18 (hm:=hm)
  ·split at h
   ·cases h
   ·simp only[eN]at h
    cases h
    have aI5:∀c,clo ({w with aO:=w.aO++[false]}:Wd) c↔clo w c:=fun c=>by
     unfold clo idx;show(if 0≤c-1 then(w.aO++[false])[(c-1).toNat]? else none)=some true↔_;split
     ·rcases Nat.lt_trichotomy (c-1).toNat w.aO.length with h|h|h
      ·rw[Ev h]
      ·rw[Ew oX,rq (l:=w.aO) oX,h,Nat.sub_self];simp
      ·rw[rq bi8,rq oX]
     ·exact Iff.rfl
    refine⟨{x with res:={aJ:=1,case:= -1,ok:=true,n:=w.au.length+1},point:=w.av,ae:=18},di (x:=x) _ hx,bp6,fun j y' hj hy=>⟨y',(by rw[←hy];exact(gd _ hj).symm),aL2.refl _ _⟩,rfl,fun c h=>(aI5 c).2 h,fun c h=> .inl ((aI5 c).1 h),fun k=> .inl (Int.le_refl _),fun c h=>aX h.1 oX,fun c r h=> .inl ?_,fun _ _ _ _ _ _ _ h=>h,fun _ sd h _ _=>⟨sd,h,rfl⟩,.inl rfl,fun h=>aX h bo1,fun m h=> .inl h,
     G2.pre L G hm.1 hm.2 rfl rfl (fun c h=>aX h (aI2 sX c)) (fun h=>bj5) (fun c h=>aX h.1 sX),aI4 20 18⟩
    show(w.au++[_])[c]?=some r;rw[Ev (cA h)];exact h
 ·split at h
  ·simp only[cI]at h;obtain⟨n,_,h⟩:=h
   cases h;exact aH3 I J hx {x with res:={aJ:=1,case:= -1,ok:=true,n:=n},point:=w.av,ae:=18} 20 18 (hm:=hm)
  ·cases h;exact aH3 I J hx {x with point:=w.av,ae:=18} 20 18 (hm:=hm)
theorem aQ4(hp:x.ae=(18:Nat))(h:mL w g=some w'):aH2 w w' g x:=by
 have L:=I.loc g x hx;have G:=J.g2 g x hx;have h0:=L.JY;have ks:=L.Uy oX;have J0:x.wakes=[]:=L.uP oX oX oX oX oX;unfold mL at h;simp only[hx,bW,eN]at h;split at h
 ·cases h
 split at h
 ·cases h
 cases h;have oN:¬aW x:=uy oX
 refine⟨{bu {x with at_:=x.at_+1}with ae:=0},di (x:=x) _ hx,bp6,fun j y' hj hy=>⟨y',(by rw[←hy];exact(gd _ hj).symm),aL2.refl _ _⟩,rfl,fun c h=>h,fun c h=> .inl h,fun k=> .inl (Int.le_refl _),fun c h=>aX h.1 oX,fun c r h=> .inl h,fun _ _ _ _ _ _ _ h=>h,fun _ sd h _ _=>⟨sd,h,rfl⟩,.inr (.inr oN),fun h=>aX h bo1,fun m h=>?_,
  ⟨fun c h=>aX h (aI2 sX c),fun _ h=>bj5,fun h=>aX rfl h,fun h=>aX rfl h,fun s h=>by simp[bu]at h,fun c h=>aX h.1 sX⟩,?_⟩
 ·rcases List.mem_append.1 h with h|h
  ·exact .inl h
  ·right;rw[List.mem_singleton.1 h];intro ha hw;have ha:x.bJ≠0:=ha;have hw:x.bF<0:=hw;obtain⟨j,hj⟩:=pz h0.1;rcases G.late ha (by unfold aI3;omega)with h1|h1
   ·omega
   ·refine⟨g,j,x.ops,aP x,rfl,hj,?_,?_,h1⟩
    ·show((w.gs.set g _).map (·.ops))[g]?=_;rw[na,di (x:=x) _ hx];rfl
    ·unfold aP idx;rw[aF h0.1,hj,oU,fv oX];rfl
 ·have e':V.Yu x=aH7 (x.ops.drop (x.at_.toNat+1))+1:=by rw[aO5 18 hp oX,J0];rfl
  have e:V.Yu {bu {x with at_:=x.at_+1}with ae:=0}=aH7 (x.ops.drop (x.at_.toNat+1)):=by unfold V.Yu;rw[aF rfl];show aH7 (x.ops.drop (x.at_+1).toNat)+0=_;rw[show(x.at_+1).toNat=x.at_.toNat+1 by omega];rfl
  show V.Yu {bu {x with at_:=x.at_+1}with ae:=0}+Rn w.ax+3*Xr w.aw+1≤_;omega
end
end
end V
end Go.Proofs.YtadifmnmfnihdaaGreat
