import Derived.Test.YtadifmnmfnihdaaGreatA10
set_option linter.all false
set_option maxRecDepth 100000
set_option maxHeartbeats 40000000
namespace Go.Proofs.YtadifmnmfnihdaaGreat
open Mach
variable{t E S':Wd}{N:ap}{b n z p:Nat}{sd:fE}{e O:bI}{w':World}{D:Mem}{Y:Int}
namespace V
section
variable{w w2:Wd}{g s:Nat}{x x' xA y:bI}
theorem Inv.ZS{l:bv}{b:Bool}(I:Inv w N)(k:w.gs[g]?=x)(W:Na w g)(A:¬aW x)(X:∀sd,¬eV x sd)(Y:N[n]?=l)(Z:s∈l)(i:w.ah[s]?=sd)(h2:sd.cK)(B:sd.g=z)(m:w.gs[z]?=y)(C:eP y s sd)(p:aW y)(D:y.aN= -1)(B9:(aP y).ai=9->y.aR=false)(ZP:(aP y).ai=9->b)(Hy:(aP y).ai≠9->b=y.aR)(bO:aL x sd.ch)(YX:1<=sd.ch/\sd.ch<=w.au)(q:xA.ae=22)(F:xA.ops=x.ops)(e1:xA.at_=x.at_)(e2:xA.bY=x.bY)(e3:xA.bA=x.bA)(G:xA.OK=x.OK)(e5:xA.aN=x.aN)(hL:Loc w.au xA)(H:∀c,aL xA c↔aL x c):∃a,fZ w s=some {w with ef:=a}/\z≠g/\Inv (((({w with ef:=a}:Wd).cJ s {sd with done:=false}).ay z {y with lQ:=w.av,fire:=sd.case,aR:=b,aN:=s}).ay g {xA with OK:=x.OK++[(z:Int)]}) (iA N s)/\bK w (((({w with ef:=a}:Wd).cJ s {sd with done:=false}).ay z {y with lQ:=w.av,fire:=sd.case,aR:=b,aN:=s}).ay g {xA with OK:=x.OK++[(z:Int)]}):=by
 have o:z≠g:=by rintro rfl;rw[k]at m;cases m;exact A p
 have Ph:¬aT xA:=λh=>ck8
 have J:¬bm xA:=λh=>ck5
 have L:¬aW xA:=uy oX;have mj:s<w.ah.length:=um i;have ZT:=I.wj Y Z i B m B9;obtain⟨M,K1⟩:=I.ku k W (wu (oM F e1) A L X Ph J e2 e3 G e5) ⟨λh=>oX,oX⟩ hL H F;have O:(w.ay g xA).gs[g]?=xA:=di _ k;obtain⟨a,d1,d2,d3⟩:=M.B8 mj (bc9 M O J i ((H _).2 bO) YX);have FH:uW {sd with done:=false} sd:=⟨ii,ii,ii,ii,ii⟩;have I3:=d2.ZG (s:=s) (sd:=sd) (sd':={sd with done:=false}) i FH;have ZU:(({(w.ay g xA)with ef:=a}:Wd).cJ s {sd with done:=false}).gs[z]?=y:=by show(w.gs.set g xA)[z]?=_;rw[gd o];exact m
 have hf:(aP y).ai≠9->sd.case= -1:=λhk=>by rcases C with⟨_,_,h,_⟩|⟨h,_⟩;all_goals grind
 have Q:∀(j:Nat) u (d:Nat) f,(({(w.ay g xA)with ef:=a}:Wd).cJ s {sd with done:=false}).gs[j]?=some u->aT u->u.br=d->(({(w.ay g xA)with ef:=a}:Wd).cJ s {sd with done:=false}).ah[d]?=some f->f.g≠z:=by
  intro j u d f r R S t;have Wu:(w.gs.set g xA)[j]?=some u:=r;rcases cX k Wu with⟨_,h⟩|⟨cM,T⟩
  .grind
  have Pj:(w.ah.set s {sd with done:=false})[d]?=some f:=t;grind
 obtain⟨I4,K4⟩:=I3.UY ZU p D Q w.av y.bF sd.case b hf Hy;have vB:((({(w.ay g xA)with ef:=a}:Wd).cJ s {sd with done:=false}).ay z {y with lQ:=w.av,bF:=y.bF,fire:=sd.case,aR:=b}).gs[g]?=xA:=by show((w.gs.set g xA).set z _)[g]?=_;rw[gd (dE o)];exact O
 have hy4:((({(w.ay g xA)with ef:=a}:Wd).cJ s {sd with done:=false}).ay z {y with lQ:=w.av,bF:=y.bF,fire:=sd.case,aR:=b}).gs[z]?=some {y with lQ:=w.av,bF:=y.bF,fire:=sd.case,aR:=b}:=di _ ZU
 have v:∀(j:Nat) u (d:Nat) f,((({(w.ay g xA)with ef:=a}:Wd).cJ s {sd with done:=false}).ay z {y with lQ:=w.av,bF:=y.bF,fire:=sd.case,aR:=b}).gs[j]?=some u->aT u->u.br=d->((({(w.ay g xA)with ef:=a}:Wd).cJ s {sd with done:=false}).ay z {y with lQ:=w.av,bF:=y.bF,fire:=sd.case,aR:=b}).ah[d]?=some f->f.g≠z:=by
  intro j u d f r R S t;have Wu:((w.gs.set g xA).set z {y with lQ:=w.av,bF:=y.bF,fire:=sd.case,aR:=b})[j]?=some u:=r;rcases cX (show(w.gs.set g xA)[z]?=y from ZU) Wu with⟨_,h⟩|⟨cM,T⟩
  .grind [xZ,iB]
  exact Q j u d f T R S t
 obtain⟨U,K5⟩:=I4.OX vB (.inr (.inl q)) L hy4 p D v (qN i) h2 B C ii ZP d3
 have e:((((({(w.ay g xA)with ef:=a}:Wd).cJ s {sd with done:=false}).ay z {y with lQ:=w.av,bF:=y.bF,fire:=sd.case,aR:=b}).ay z {y with lQ:=w.av,bF:=y.bF,fire:=sd.case,aR:=b,aN:=s}).ay g {xA with OK:=xA.OK++[(z:Int)]})=
   (((({w with ef:=a}:Wd).cJ s {sd with done:=false}).ay z {y with lQ:=w.av,fire:=sd.case,aR:=b,aN:=s}).ay g {xA with OK:=x.OK++[(z:Int)]}):=by
  rw[G,cY];show((((({w with ef:=a}:Wd).cJ s {sd with done:=false}).ay g xA).ay z _).ay g _)=_;rw[sR (dE o),cY]
 rw[e]at U;have K:=K1.trans ((show bK (w.ay g xA) (({(w.ay g xA)with ef:=a}:Wd).cJ s {sd with done:=false})from⟨ii,ii,ii,ii,ii,ii⟩).trans (K4.trans K5));rw[e]at K;exact⟨a,ky (w2:=w) d1 ii,o,U,K⟩
theorem Kv{q':er}(c:w.gs[g]?=x)(f:x.br=s)(h:fZ w s=some {w with ef:=q'})(i:w.ah[s]?=sd)(b:sd.g=z)(j:w.gs[z]?=y)(a:z≠g)(k:x.OK.length<1000000):yo w g=((({w with ef:=q'}:Wd).cJ s {sd with done:=false}).ay z {y with lQ:=w.av,fire:=sd.case,aN:=s}).ay g {x with t:=w.av,OK:=x.OK++[(z:Int)],br:= -1}:=by
 have l:nat? x.br=s:=by rw[f];exact eQ s
 unfold yo;simp only[c,l,bW,eN];rw[ky (w2:=w.ay g {x with t:=w.av}) h rfl];simp only[eN];have d:({(w.ay g {x with t:=w.av})with ef:=q'}:Wd).ah[s]?=sd:=i;have e:({(w.ay g {x with t:=w.av})with ef:=q'}:Wd).gs[z]?=y:=by show(w.gs.set g _)[z]?=_;rw[gd a];exact j
 simp only[d,b,eQ,e,eN];rw[aE a]
 refine(mZ (w:=({(w.ay g {x with t:=w.av})with ef:=q'}:Wd).ay z {y with lQ:=w.av,fire:=sd.case}) (x:={x with t:=w.av}) (y:={y with lQ:=w.av,fire:=sd.case}) (z:=z) (sd:=sd)
  (by show((w.gs.set g _).set z _)[g]?=_;rw[gd (dE a)];exact di _ c) d b (di (x:=y) _ e) a k false).trans ?_
 congr 1;show((((({w with ef:=q'}:Wd).cJ s {sd with done:=false}).ay g {x with t:=w.av}).ay z {y with lQ:=w.av,fire:=sd.case}).ay z {y with lQ:=w.av,fire:=sd.case,aN:=s}).ay g _=_;rw[cY,sR (dE a),cY,b];try rfl
section
variable(I:Inv w N)(hx:w.gs[g]?=x)
include I hx
theorem bp8(n:Na w g)(o:(aP x).ai=6)(j:x.ae=22):∃E J,aZ4 w g (aP x).ch=some E/\Inv E J/\bK w E:=by
 have L:=bT4;have K:=bT6;have v:aL x (aP x).ch:=cx8
 have A:¬aW x:=uy oX;have B:∀sd,¬eV x sd:=Ca oX;have O:=I.c8;have Q:(sK w (aP x).ch).2=false\/∃d:Int,(d=2*(aP x).ch-2\/d=2*(aP x).ch-1)/\sK w (aP x).ch=w.ef.first d/\(w.ef.first d).2=true:=by unfold sK;grind
 unfold aZ4;rcases Q with p|⟨d,R,p,S⟩
 .simp only[hx,p,dt,bW,eN];obtain⟨k,i,f⟩:=M.h22 L o j;exact⟨_,N,aX9 hx 16,I.ku hx n k ⟨sX,sX⟩ i f ii⟩
 rcases Kr I (kk:=d) oX with h|⟨s,z,l,sd,y,T,C,D,k,U,F,G,q,h9,W⟩
 .grind
 have r:=Ks R W;rw[p,T];simp only[hx,k,eQ,aH6,dF,bW,eN];by_cases u:0<=sd.case
 .rw[aF u];obtain⟨i,f⟩:=M.ao4 L o j s;exact⟨_,N,ii,I.Pe hx n C D k u (.inr (.inr rfl)) ii (by rw[r];exact(f _).2 v) A B ii ii ii ii ii ii i f⟩
 rw[aE u];have jA:(aP y).ai≠9:=by rcases q with h|⟨_,h,_⟩;all_goals grind
 have X:sd.case= -1:=by rcases q with⟨_,_,h,_⟩|⟨h,_⟩;all_goals grind
 rw[aF X]
 have H:aW y/\y.aN= -1:=by
  exact cd8
 obtain⟨i,f⟩:=M.ao5 L o j w.av;obtain⟨m,d1,d2,d3,d4⟩:=I.ZS (xA:={x with br:= -1,t:=w.av,ae:=22}) (b:=y.aR) hx n A B C D k U F G q H.1 H.2 (λh=>aX h jA) (λh=>aX h jA) (λ_=>rfl) (by rw[r];exact v) (by rw[r];exact K) ii ii ii ii ii ii ii i f;have Y:(w.ay g {x with br:=s}).gs[g]?=some {x with br:=s}:=di _ hx;rw[Kv (q':=m) (sd:=sd) (z:=z) (y:=y) Y ii (ky d1 ii) k F (by show(w.gs.set g _)[z]?=_;rw[gd d2];exact G) d2 (by have:=I.sj hx;simp only;omega)];refine⟨_,iA N s,ii,?_⟩
 have e:(((({(w.ay g {x with br:=s})with ef:=m}:Wd).cJ s {sd with done:=false}).ay z {y with lQ:=w.av,fire:=sd.case,aN:=s}).ay g {x with br:= -1,t:=w.av,OK:=x.OK++[(z:Int)]})=
   (((({w with ef:=m}:Wd).cJ s {sd with done:=false}).ay z {y with lQ:=w.av,fire:=sd.case,aR:=y.aR,aN:=s}).ay g {x with br:= -1,t:=w.av,ae:=22,OK:=x.OK++[(z:Int)]}):=by
  rw[<-j];show(((({w with ef:=m}:Wd).cJ s {sd with done:=false}).ay g {x with br:=s}).ay z _).ay g _=_;rw[sR (dE d2),cY]
 exact⟨e▸d3,e▸d4⟩
theorem Dt(n:Na w g)(o:(aP x).ai=6)(d:x.ae=23):∃E B,aX0 w g=some E/\Inv E B/\bK w E:=by
 have L:=bT4;have p:¬aW x:=uy oX;have tR:∀sd,¬eV x sd:=Ca oX;obtain⟨s,k,l,sd,a1,q,r,a,H,f⟩:=I.look g x hx (.inr (.inr d));obtain⟨C,z,y,u,D,i,b4,b5,b6,J⟩:=I.EJ k l s q r;rw[a]at u;cases u;have mh:z≠g:=co4
 have oz:(aP y).ai=9:=by
  exact ce2
 have U1:=I.loc z y b4;have v:=Ku I hx oX f;have G:s<w.ah.length:=um a;have hn:nat? x.br=s:=cx6
 unfold aX0;simp only[hx,hn,eQ,a,i,b4,bW,eN];rw[aE mh]
 cases B9:y.aR with
 |true=>
  simp only[dt];obtain⟨j,c⟩:=M.ao6 L o d;have F:=I.ku hx n (x':={x with br:= -1,ae:=22}) (wu ii p (uy sX) tR (λh=>cm8) (λh=>cl9) ii ii ii ii) ⟨sX,sX⟩ j c ii;have m:(w.ay g {x with br:= -1,ae:=22}).gs[g]?=some {x with br:= -1,ae:=22}:=di _ hx;obtain⟨q',d1,d2,d3⟩:=F.1.B8 G (bc9 F.1 m (λh=>cl9) a ((c _).2 f) v);rw[ky (w2:=w) d1 rfl];exact⟨_,_,ii,d2,⟨dW hx ii,ii,ii,ii,ii,ii⟩⟩
 |false=>
  simp only[nW,dF]
  have A:aW y/\y.aN= -1:=by
   exact ca0
  obtain⟨j,c⟩:=M.ao7 L o d w.av;obtain⟨q',d1,d2,d3,d4⟩:=I.ZS (xA:={x with br:= -1,t:=w.av,ae:=22}) (b:=true) hx n p tR q r a D i b4 b5 A.1 A.2 (λ_=>B9) (λ_=>rfl) (λh=>aX oz h) f v ii ii ii ii ii ii ii j c;have m:(w.ay z {y with aR:=true}).gs[g]?=x:=cn7
  rw[Kv (q':=q') (sd:=sd) (z:=z) (y:={y with aR:=true}) m a1 (ky d1 ii) a i (di _ b4) mh cq6];simp only[eN];rw[aX9 (x:={x with t:=w.av,OK:=x.OK++[(z:Int)],br:= -1}) (di (x:=x) _ ct3)];refine⟨_,iA N s,ii,?_⟩
  have e:((((({(w.ay z {y with aR:=true})with ef:=q'}:Wd).cJ s {sd with done:=false}).ay z {y with aR:=true,lQ:=w.av,fire:=sd.case,aN:=s}).ay g {x with t:=w.av,OK:=x.OK++[(z:Int)],br:= -1}).ay g {x with t:=w.av,OK:=x.OK++[(z:Int)],br:= -1,ae:=22})=
    (((({w with ef:=q'}:Wd).cJ s {sd with done:=false}).ay z {y with lQ:=w.av,fire:=sd.case,aR:=true,aN:=s}).ay g {x with br:= -1,t:=w.av,ae:=22,OK:=x.OK++[(z:Int)]}):=by
   exact cg1
  exact⟨e▸d3,e▸d4⟩
theorem oq(b:gU w.au x)(e:0<=x.k/\x.k<x.aH):∃(i:Nat) (c:Case),dU x=(i:Int)/\x.aH[x.k.toNat]?=(i:Int)/\iF (aP x) i=c/\(aP x).cases[i]?=c/\1<=c.ch/\c.ch<=w.au/\c.ch∈x.aq/\kJ x.k:=by
 obtain⟨v,a⟩:∃v,x.aH[x.k.toNat]?=some v:=⟨_,fv oX⟩;obtain⟨f,c,j,l,m,n⟩:=b.ord v (lf a);obtain⟨i,o⟩:=pz f;subst o;have d:(aP x).cases[i]?=c:=by simpa using j
 have:=I.c8;refine⟨i,c,?_,a,?_,d,l,m,n,?_⟩
 .unfold dU idx;rw[aF e.1];exact a
 .unfold iF idx;rw[aF oX,oU,d];simp only[bW,eN];rw[aF co2]
 have:=b.len;unfold kJ;simp;omega
end
theorem KA(a:(aP x).ai=9)(b:25<=x.ae/\x.ae<=29\/x.ae=32)(h:Y∈x.aq):aL x Y:=by
 unfold aL;rw[aF a];have e:bC x=x.aq.length:=by unfold bC;rw[aE oX,aF b]
 grind
section
variable(I:Inv w N)(hx:w.gs[g]?=x)(hs:Na w g)(hk:(aP x).ai=9)
include I hx hs hk
theorem PE(n:x.ae=32):∃E R,uG w g=some E/\Inv E R/\bK w E:=by
 have L:=bT4;obtain⟨s1,s2,s3⟩:=bT1;have kE:=bT2;obtain⟨i,c,S,h2,h3,h4,T,U,X,Y⟩:=bU1;have o:¬aW x:=uy oX;obtain⟨v,hv,Z⟩:=bU2;obtain⟨s,PF⟩:=pz Z;subst PF;rw[oU]at hv;obtain⟨sd,A,a2,a3,a4,a5⟩:=I.bA g x i s hx hv;have B:sd.ch=c.ch:=by rcases a5 with⟨h,_⟩|⟨_,_,_,c',C,D,_⟩;all_goals grind
 have mj:s<w.ah.length:=um A;obtain⟨p,d1,d2,d3⟩:=I.B8 mj (bc9 I hx (λh=>ck5) A (by rw[B];exact KA hk oX X) (by rw[B];exact⟨T,U⟩));have ei:idx x.bA i=some (s:Int):=cy0
 unfold uG;simp only[hx,S,ei,d1,Y,bW,eN,aH6,dF]
 have m:∀x':bI,x'.ops=x.ops->x'.at_=x.at_->x'.bY=x.bY->x'.bA=x.bA->x'.OK=x.OK->x'.aN=x.aN->Loc w.au x'->(∀c,aL x' c↔aL x c)->(x'.ae=32\/x'.ae=33)->
   (∀d,(∃j:Nat,x.k<j/\x.aH[j]?=some d.case)->eV x' d)->Inv (({w with ef:=p}:Wd).ay g x') (iA N s)/\bK w (({w with ef:=p}:Wd).ay g x'):=by
  intro x' G C D e3 H q hL hh kM hq;have e:({w with ef:=p}:Wd).gs[g]?=x:=hx;have K:=d2.iQ (x':=x') e (oM G C) D e3;have W:=d2.jU (x':=x') e (by rw[H];exact ae0 _);refine⟨d2.aW6 e hL (λk l u d hl hm hu EU J SS=>⟨(K.2.2 _ _).2 J,hq d ?_⟩) K.1 K.2.1 (λj u s sd _ _ _ _ _ _ a b _ _ _=>aX b o) (λh=>ck8) (λh=>ck5) (d2.qB e K.2.2 q (λh=>aX h o)) W.1 W.2 ii ii ii d2.au ii ii (d2.lock.same e hh) ii ii ii (d2.st.same e hs (λh=>aX h o) q (λh=>oX) oX) (d2.jn.same e (λh=>aX h o) q H (λh=>oX)),dW hx G,ii,ii,ii,ii,ii⟩;rcases SS with⟨h,_⟩|⟨_,h⟩
  .exact aX hk h
  have hj:∃j:Nat,x.k<=j/\x.aH[j]?=some d.case:=cp2
  obtain⟨j,O,f⟩:=hj;refine⟨j,?_,f⟩;by_cases Zm:(j:Int)=x.k
  .exfalso;have r:j=x.k.toNat:=by omega
   rw[r,h2]at f;rcases J with⟨h,_⟩|⟨_,_,t,_⟩
   .exact aX hk h
   have Q:d.case.toNat=i:=(by have:=mx f;omega);rw[Q,hv]at t;have e7:u=s:=(by have:=mx t;omega);subst e7;exact d3 k l hl hm
  omega
 by_cases Q:(x.aH.length:Int)<=x.k+1
 .rw[aF Q];obtain⟨r,t⟩:=M.aq3 L hk n;have F:=m {x with k:=x.aq.length,ae:=33} rfl ii ii ii ii ii r t (.inr rfl) (λd ⟨j,O,f⟩=>by have:=um f;omega);exact⟨_,_,ii,F⟩
 rw[aE Q];obtain⟨r,t⟩:=M.aq2 L hk n oX;have F:=m {x with k:=x.k+1} rfl ii ii ii ii ii r t (.inl n) (λd ⟨j,O,f⟩=> .inr ⟨hk,.inr (.inr (.inr (.inr (.inr ⟨n,j,ci9,f⟩))))⟩);exact⟨_,_,ii,F⟩
theorem bf5(m:x.ae=29):∃E b,gK w g (aP x)=some E/\Inv E b/\bK w E:=by
 have L:=bT4;obtain⟨s1,s2,s3⟩:=bT1;have kE:=bT2;obtain⟨i,c,T,h2,U,h4,h5,h6,h7,W⟩:=bU1;have X:=I.c8;obtain⟨v,hv,Y⟩:=bU2;obtain⟨s,Z⟩:=pz Y;subst Z;rw[oU]at hv;obtain⟨sd,B,a2,a3,C,D⟩:=I.bA g x i s hx hv;have F:sd.ch=c.ch/\sd.cF=c.cF:=by rcases D with⟨h,_⟩|⟨_,_,_,c',e1,e2,e3⟩;all_goals grind
 have ei:idx x.bA i=(s:Int):=cy0
 have d:(if c.cF then 2*c.ch-1 else 2*c.ch-2)=Lh sd:=by unfold Lh;rw[F.1,F.2]
 obtain⟨k,G⟩:=pz (show 0<=Lh sd by rw[<-d];split<;>omega)
 have ZH:k<16:=by
              have:Lh sd<16:=by rw[<-d];split<;>omega
              omega
 have n:∀(o:Nat) f,N[o]?=some f->s ∉ f:=by
  intro o f tA Ht;obtain⟨AU,g2,x2,H,b2,b3,J,b5,b6,_⟩:=I.EJ o f s tA Ht;rw[B]at H;cases H;obtain rfl:g2=g:=oX
  rw[hx]at J;cases J;rcases b6 with⟨h,_⟩|⟨_,h⟩
  .exact h hk
  have hj:∃j:Nat,(j:Int)<x.k/\x.aH[j]?=sd.case:=cp2
  obtain⟨j,Ni,p⟩:=hj;rw[C]at p;have:=(aA8 (um p) s1.nd).1 (p.trans h2.symm);omega
 have e:∀x':bI,lH x x'->x'.ops=x.ops->Loc w.au x'->(∀c,aL x' c↔aL x c)->x'.ae≠14->x'.ae≠19->eV x' sd->
   ∃a b,lh w (Lh sd) s=some {w with ef:=a}/\Inv (({w with ef:=a}:Wd).ay g x') b/\bK w (({w with ef:=a}:Wd).ay g x'):=by
  intro x' M K hL hh Dp r SS;obtain⟨I1,K1⟩:=I.ku hx hs M ⟨λh=>aX h Dp,r⟩ hL hh K;have eE:(w.ay g x').gs[g]?=x':=di _ hx;obtain⟨a,l,p1,O,p3⟩:=I1.UX (s:=s) (k:=k) (g:=g) (sd:=sd) B a2 a3 eE (M.owns.2 D) SS G.symm ZH n (λh=>aX (by rw[M.aP];exact hk) h);refine⟨a,_,?_,p3,dW hx K,ii,ii,ii,ii,ii⟩;rw[G];unfold lh at O ⊢;have Q:(w.ef.push k s).map (λq=>({(w.ay g x')with ef:=q.1}:Wd))=some {(w.ay g x')with ef:=a}:=O
  cases d:w.ef.push k s with
  |none=>rw[d]at Q;cases Q
  |some q=>
   grind
 unfold gK;simp only[hx,T,U,ei,d,bW,eN];by_cases j7:(x.aH.length:Int)<=x.k+1
 .obtain⟨t,u,A⟩:=M.aq1 L hk m w.av;obtain⟨a,b,R,S⟩:=e {x with bJ:=w.av,k:=x.aq.length,ae:=30} t ii u A sX sX (.inr ⟨hk,.inr (.inl ⟨ii,L.BE hk oX⟩)⟩);simp only[R,W,eN,aH6,dF];rw[aF j7];exact⟨_,_,ii,S⟩
 obtain⟨t,u,A⟩:=M.aq0 L hk m oX;obtain⟨a,b,R,S⟩:=e {x with k:=x.k+1} t ii u A ci9 ci9 (.inr ⟨hk,.inl ⟨m,x.k.toNat,ci9,by rw[C];exact h2⟩⟩);grind
end
theorem wv(a:x.ae=0\/x.ae=1\/x.ae=4\/x.ae=18\/x.ae=19\/x.ae=20\/x.ae=24/\x.k=0)(c:Int):¬aL x c:=by
 unfold aL;split
 .have e:bC x=0:=by
   unfold bC;split
   .omega
   grind
  rw[e];simp
 unfold cH;omega
structure nC(x y:bI):Prop where
 ops:y.ops=x.ops
 at_:y.at_=x.at_
 aN:y.aN= -1
 bY:y.bY= -1
 br:y.br= -1
 bA:y.bA=[]
 OK:y.OK=[]
 fire:(aP x).ai≠9\/y.ae=24->y.fire= -1/\y.res.case= -1/\y.aR=false
 oW:y.ae=24->y.lQ=0/\y.res.aJ=0/\y.k=0
theorem nC.loc(F:nC x y)(L:Loc b x)(n:x.at_<x.ops)(e:y.ae=1\/y.ae=4\/y.ae=18\/y.ae=19\/y.ae=20\/y.ae=24)(hk:bG (aP x).ai y.ae)(f:y.ae=1\/y.ae=4->1<=(aP x).ch/\(aP x).ch<=b)(o:y.ae=24->gU b y)(p:(aP x).ai=9->y.ae=18->cV (aP x) b y):Loc b y:=by
 have eg:aP y=aP x:=oM F.ops F.at_
 have q:(aP x).ai=9->y.ae=18\/y.ae=19\/y.ae=24:=by
  intro r;rw[r]at hk;rcases e with h|h|h|h|h|h
  .rw[h]at hk;exact aX hk dX
  .rw[h]at hk;exact aX hk dX
  .omega
  .omega
  .rw[h]at hk;exact aX hk dX
  omega
 have t:¬aW y:=uy oX;refine⟨by rw[F.ops,F.at_];exact L.JY,by rw[F.ops];exact L.ops,λ_=>by rw[F.ops,F.at_];exact n,λ_=>cw5,oX,λh=>oX,λa d j k l=>?_,λa d j k l=>?_,λh=>oX,λ_ _ _ _ _=>F.OK,λ_ h=>oX,λ_=>F.bY,λ_=>F.bA,λ_ _ s m=>(by rw[F.bA]at m;cases m),λh=>?_,⟨by rw[F.aN];omega,λ_=>F.aN⟩,λh=>F.fire (.inl (by rw[<-eg];exact h)),λa d=>?_,λh=>oX,λ_ h=>oX,λ_=>⟨λh=>aX h t,λh=>oX⟩,λh=>oX,λa d=>?_,by rw[F.br];omega⟩
 .rw[eg]at a ⊢;rcases e with h|h|h|h|h|h
  .exact f (.inl h)
  .exact f (.inr h)
  .exact aX h j
  .exact aX h k
  .exact aX h l
  rw[h]at hk;have:(aP x).ai=9:=by simpa[bG]using hk
  exact aX this a
 .rw[eg]at a;have c:y.ae=24:=by have:=q a;omega
  have S:=o c;obtain⟨f1,f2,f3⟩:=F.oW c;refine⟨S,⟨λh=>?_,λh=>oX,λh=>oX⟩,⟨λ_=>F.bA,λh=>aX (.inl c) h,λi s h=>(by rw[F.bA]at h;simp at h),λh=>oX,λh=>oX,λh=>oX,λh=>oX⟩⟩;have:=pd S.Ei;omega
 .unfold aT bm at h;omega
 .have c:y.ae=24:=by omega
  obtain⟨f1,f2,f3⟩:=F.oW c;obtain⟨f4,f5,f6⟩:=F.fire (.inr c);exact⟨f6,f1,f4,f5,f2⟩
 rw[eg]at a ⊢;exact p a oX
section
variable(I:Inv w N)(hx:w.gs[g]?=x)(hs:Na w g)
include I hx hs
theorem Inv.IG(a:x.ae=0)(b:x.at_<x.ops)(F:nC x y)(d:y.ae=1\/y.ae=4\/y.ae=18\/y.ae=20\/y.ae=24)(e:bG (aP x).ai y.ae)(f:y.ae=1\/y.ae=4->1<=(aP x).ch/\(aP x).ch<=w.au)(i:y.ae=24->gU w.au y)(j:(aP x).ai=9->y.ae=18->cV (aP x) w.au y):Inv (w.ay g y) N/\bK w (w.ay g y):=by
 have L:=bT4;have B:=L.begin a;have k:=F.loc L b oX e f i j
 have l:∀c,aL y c↔aL x c:=λc=>⟨λh=>aX h (wv (by
  rcases d with h|h|h|h|h
  .exact .inr (.inl h)
  .omega
  .omega
  .omega
  exact .inr (.inr (.inr (.inr (.inr (.inr ⟨h,(F.oW h).2.2⟩)))))) c),λh=>aX h (wv (.inl a) c)⟩
 exact I.ku hx hs (wu (oM F.ops F.at_) (uy oX) (uy oX) (Ca oX) (λh=>ck8) (λh=>ck5) (F.bY.trans B.bY.symm) (F.bA.trans B.bA.symm) (F.OK.trans B.OK.symm) (F.aN.trans B.aN.symm)) ⟨λh=>oX,oX⟩ k l F.ops
theorem Inv.Pm(n:x.ae=0)(r:x.at_<x.ops)(F:nC x y)(A:y.ae=19)(C:bG (aP x).ai y.ae):Inv ({w.ay g y with ax:=(tD w.ax g).1}:Wd) N/\bK w ({w.ay g y with ax:=(tD w.ax g).1}:Wd):=by
 have L:=bT4;have B:=L.begin n;have D:=F.loc L r oX C (λh=>oX) (λh=>oX) (λ_ h=>oX);obtain⟨t,f⟩:=hs;have o:¬aW x:=uy oX;obtain⟨U,W,X,Y,Z,a6,a7⟩:=I.st g x 0 t hx f;have G:t=false:=cp2
 subst G;have M:lH x y:=wu (oM F.ops F.at_) o (uy oX) (Ca oX) (λh=>ck8) (λh=>ck5) (F.bY.trans B.bY.symm) (F.bA.trans B.bA.symm) (F.OK.trans B.OK.symm) (F.aN.trans B.aN.symm);have H:∀c,aL y c↔aL x c:=λc=>⟨λh=>aX h (wv oX c),λh=>aX h (wv (.inl n) c)⟩
 have k:(tD w.ax g).1=w.ax.set g (1,false):=by rw[be3 f];rfl
 refine⟨I.OZ hx M D H ii (by simp only;rw[k];simp) ii ii ii ii ii ii ?_ ?_,dW hx F.ops,ii,ii,ii,ii,ii⟩
 .simp only;rw[k];intro j u s t a b;rcases SQ f b with⟨rfl,e⟩|⟨p,b⟩
  .cases e;rcases cX hx a with⟨_,rfl⟩|⟨h,_⟩
   .exact⟨oX,oX,λh=>ck3,λ_=> .inr A,λ_=>rfl,λh=>oX,λh=>oX⟩
   exact aX ii h
  rcases cX hx a with⟨rfl,_⟩|⟨_,a⟩
  .exact aX ii p
  exact I.st j u s t a b
 simp only;rw[k];intro j u z a J
 have K:∃(l:Nat) (b:bI),w.gs[l]?=b/\z∈b.OK:=by
  rcases cX hx a with⟨d,m⟩|⟨p,a⟩
  .grind [nC.OK]
  exact⟨j,u,a,J⟩
 obtain⟨l,b,J2,O⟩:=K;obtain⟨i,v,s,Q,d,m,R,S,T⟩:=I.jn l b z J2 O;have q:i≠g:=by rintro rfl;rw[hx]at d;cases d;exact o m
 exact⟨i,v,s,Q,by show(w.gs.set g y)[i]?=_;rw[gd q];exact d,m,R,by rw[bne _ q];exact S,T⟩
theorem Inv.ap8(l:x.ae=0)(m:(x.ops:Int)<=x.at_):Inv ({w with ax:=(Av w.ax g).1}:Wd) N/\bK w ({w with ax:=(Av w.ax g).1}:Wd):=by
 have L:=bT4;obtain⟨t,c⟩:=hs;have n:¬aW x:=uy oX;have f:(Av w.ax g).1=w.ax.set g (2,false):=by unfold Av;rw[(qm c).1];simp
 rw[f];refine⟨⟨I.n8,by simp only[kI];exact I.ax,I.c8,I.aO,I.aq,I.au,I.JZ,I.aS,I.bM,I.Eg,I.q,I.loc,I.lock,I.cK,I.bY,I.bA,I.EJ,I.look,I.claim,I.pE,I.served,?_,?_,I.pg,I.rf⟩,ii,ii,ii,ii,ii,ii⟩
 .intro j u s k a b;rcases SQ c b with⟨rfl,e⟩|⟨o,b⟩
  .cases e;have d:w.gs[j]?=u:=a;rw[hx]at d;cases d;have:=L.JY;grind
  exact I.st j u s k a b
 intro j u z a b;obtain⟨i,v,s,d,k,o,p,r,A⟩:=I.jn j u z a b;grind
theorem Inv.SW(v:x.ae=18)(F:y={bu {x with at_:=x.at_+1}with ae:=0})(d:List Ex):Inv (({w with done:=d}:Wd).ay g y) N:=by
 have L:=bT4;have f:¬aW x:=uy oX;have A:=bU3;have o:=L.JY;have p:x.OK=[]:=L.uP oX oX oX oX oX;have n:=L.aN.2 f;subst F;have q:¬aW ({bu {x with at_:=x.at_+1}with ae:=0}:bI):=uy sX;have r:Loc w.au.length {bu {x with at_:=x.at_+1}with ae:=0}:=by refine⟨⟨by simp only[bu];omega,by simp only[bu];omega,o.2.2⟩,L.ops,λh=>aX ii h,λh=>aX ii h,sX,λ_=>⟨ii,ii,ii,ii,ii,ii,ii,ii,ii,ii⟩,λ_ h=>aX ii h,λ_ h=>aX ii h,λh=>cj5,λ_ _ _ _ _=>rfl,λ_ h=>cj5,λ_=>rfl,λ_=>rfl,λ_ h=>cj5,λh=>?_,⟨by simp[bu],λ_=>rfl⟩,λ_=>⟨ii,ii,ii⟩,λ_ h=>cj5,λh=>cj5,λ_ h=>cj5,λ_=>⟨λh=>aX h q,λh=>cj5⟩,λh=>cj5,λ_ h=>cj5,by simp[bu]⟩;grind [aT,bm]
 have t:∀c,aL ({bu {x with at_:=x.at_+1}with ae:=0}:bI) c↔aL x c:=λc=>⟨λh=>aX h (wv (.inl rfl) c),λh=>aX h (wv oX c)⟩
 have m:({w with done:=d}:Wd).gs[g]?=x:=hx;have e:Inv ({w with done:=d}:Wd) N:=I.same ii ii ii ii ii ii ii ii
 exact e.aW6 m r (λk l s sd _ _ _ _ a c=>aX c (Ca oX sd)) (λs h=>by simp only[bu]at h;omega) (λi s h=>by simp[bu]at h) (λj u s sd _ _ _ _ _ _ a b _ _ _=>aX b f) (λh=>cm8) (λh=>cl9)
  (λs h=>by simp only[bu]at h;omega) List.nodup_nil (λj u z _ _ _ h=>ck3) ii ii ii e.au ii ii (e.lock.same m t) ii ii ii (e.st.same m hs (λh=>aX h f) n.symm sX sX) (e.jn.same m (λh=>aX h f) n.symm p.symm sX)
end
theorem DI(a:0<=x.at_)(b:x.at_<x.ops):aP x∈x.ops:=by
 unfold aP idx;grind
theorem KC(I:Inv w N)(hx:w.gs[g]?=x)(a:x.at_<x.ops):mf w g=aP x/\Vz (aP x):=by
 have L:=bT4;have hR:=L.ops _ (DI L.JY.1 a);exact cf3
theorem zu{w:Wd}:cZ w Y=true↔1<=Y/\Y<=w.au:=by unfold cZ;simp
theorem nC.WH(x:bI)(p:Int)(a:Int)(r:nP)(c:Int)(b:r.case= -1)(d:p≠24):nC x {bu x with call:=c,res:=r,lQ:=a,ae:=p}:=
 ⟨ii,ii,ii,ii,ii,ii,ii,λ_=>⟨ii,b,ii⟩,λh=>aX h d⟩
section
variable(I:Inv w N)(hx:w.gs[g]?=x)(hs:Na w g)
include I hx hs
theorem PI(a:x.ae=0)(b:(x.ops:Int)<=x.at_):∃E,jT w g=some E/\Inv E N/\bK w E:=by
 refine⟨_,?_,I.ap8 hx hs a b⟩;unfold jT;grind
theorem I8(l:x.ae=0)(f:x.at_<x.ops)(m:(aP x).ai≠9):∃E,jT w g=some E/\Inv E N/\bK w E:=by
 obtain⟨n,o⟩:=KC I hx f;have p:=o.k;have i:(w.ay g {bu x with call:=w.av}).gs[g]?=some {bu x with call:=w.av}:=di (x:=x) _ hx
 have a:∀(y:bI),nC x y->(y.ae=1\/y.ae=4\/y.ae=18\/y.ae=20)->bG (aP x).ai y.ae=true->(y.ae=1\/y.ae=4->cZ w (aP x).ch=true)->Inv (w.ay g y) N/\bK w (w.ay g y):=λy F e b c=>
  I.IG hx hs l f F oX b (λh=>zu.1 (c h)) (λh=>oX) (λh=>aX h m)
 unfold jT Gt Nc never Gt fL;simp only[hx,bW,eN,n,aE (by omega:¬(x.ops.length:Int)<=x.at_),i,km];by_cases e:(aP x).ai=1\/(aP x).ai=7\/(aP x).ai=8
 .rw[aF e];refine⟨_,ii,?_⟩;rw[cY];exact a _ (nC.WH x 20 0 {case:= -1} w.av ii oX) sX (by rcases e with h|h|h<;>rw[h]<;>simp[bG]) (λh=>cj5)
 rw[aE e];by_cases b:(aP x).ai=2\/(aP x).ai=3
 .rw[aF b]
  cases d:cZ w (aP x).ch with
  |true=>
   simp only[dt];refine⟨_,ii,?_⟩;rw[cY];exact a _ (nC.WH x 4 0 {case:= -1} w.av ii oX) sX (by rcases b with h|h<;>rw[h]<;>simp[bG]) (λ_=>d)
  |false=>
   simp only[nW,dF];refine⟨_,ii,?_⟩;have Z:=I.Pm hx hs l f (nC.WH x 19 0 {case:= -1} w.av ii oX) ii (by rcases b with h|h<;>rw[h]<;>simp[bG]);simp only[Wd.ay,my]at Z ⊢;exact Z
 rw[aE b];by_cases c:(aP x).ai=4\/(aP x).ai=5
 .rw[aF c]
  cases d:cZ w (aP x).ch with
  |true=>
   simp only[dt];refine⟨_,ii,?_⟩;rw[cY];exact a _ (nC.WH x 1 0 {case:= -1} w.av ii oX) sX (by rcases c with h|h<;>rw[h]<;>simp[bG]) (λ_=>d)
  |false=>
   simp only[nW,dF];refine⟨_,ii,?_⟩;rw[cY];exact a _ (nC.WH x 18 w.av {aJ:=2,case:= -1} w.av ii oX) sX (by rcases c with h|h<;>rw[h]<;>simp[bG]) (λh=>cj5)
 rw[aE c];have j:(aP x).ai=6:=oX
 rw[aF j]
 cases d:cZ w (aP x).ch with
 |true=>
  simp only[dt];refine⟨_,ii,?_⟩;rw[cY];exact a _ (nC.WH x 4 0 {case:= -1} w.av ii oX) sX (by rw[j];simp[bG]) (λ_=>d)
 |false=>
  simp only[nW,dF];refine⟨_,ii,?_⟩;rw[cY];exact a _ (nC.WH x 18 w.av {aJ:=5,case:= -1} w.av ii oX) sX (by rw[j];simp[bG]) (λh=>cj5)
theorem Tb(b:x.ae=20)(c:(aP x).ai≠1):∃E,doS w g=some E/\Inv E N/\bK w E:=by
 have L:=bT4;obtain⟨d,k⟩:=pj I hx oX;have a:=bU4;rw[b]at a;have e:(aP x).ai=1\/(aP x).ai=7\/(aP x).ai=8:=by grind [bG]
 have f:(aP x).ai≠9:=oX
 obtain⟨n,i⟩:∃n,wQ w (aP x)=some n:=by
  unfold wQ
  cases j:cZ w (aP x).ch with
  |false=>exact⟨_,ii⟩
  |true=>
   obtain⟨_,r,l,_⟩:=gz I (zu.1 j);simp_all
 unfold doS;simp only[d,hx,bW,eN,aE c,i];rw[aF oX];refine⟨_,ii,?_⟩;obtain⟨l,m,o⟩:=M.o20 L f b w.av {aJ:=1,case:= -1,ok:=true,n:=n} rfl;grind [Inv.ku]
theorem F0(a:x.ae=18)(c:w.done.length<1000000):∃E,mL w g=some E/\Inv E N/\E.gs.map (·.ops)=w.gs.map (·.ops)/\E.av=w.av/\E.list=w.list/\E.drawn=w.drawn/\E.done=w.done++[qu x g w.av]/\E.au=w.au.length:=by
 have L:=bT4;have:=L.JY;unfold mL;simp only[hx,bW,eN];have b:kJ x.at_=true:=co2
 rw[b,aE dX,aE oX];refine⟨_,ii,I.SW hx hs a ii _,?_,ii,ii,ii,ii,ii⟩;exact dW hx ii
end
end
theorem bk7{α β:Type}{f:α->Option β}{h:α->β}:∀l:List α,(∀a∈l,f a=h a)->l.mapM f=l.map h
 | [],_=>sX
 |a::l,H=>by rw[bI3,H a sX,bk7 l (λb c=>H b (by simp[c]))];rfl
theorem sr(l:ce):∀(n i:Nat) (d:Int),(gy l d i n).1.length=n
 |0,i,d=>rfl
 |n+1,i,d=>by simp only[gy,sV,sr l n]
theorem Cg(l:ce):∀(n i:Nat) (d:Int),0<=d->d<=(gy l d i n).2/\((gy l d i n).2<=d\/(gy l d i n).2<=l)
 |0,i,d,_=>by simp[gy]
 |n+1,i,d,a=>by
  have b:d<=(gw l d ((i:Int)+1)).2/\((gw l d ((i:Int)+1)).2<=d\/(gw l d ((i:Int)+1)).2<=l.length):=by grind [gw]
  have c:=Cg l n (i+1) (gw l d ((i:Int)+1)).2 oX;grind [gy]
section
variable{w w':Wd}{s:Nat}{xA y:bI}{o:cu}
theorem Mo(k:Vz o)(a:ce)(r:a=o.cases.length):∃b,aT3 w o a=some b/\(∀p∈b,0<=p.1/\∃c,o.cases[p.1.toNat]?=some c/\p.2=c.ch/\1<=c.ch/\c.ch<=w.au)/\(b.map (·.1)).Nodup/\b.length<=6:=by
 have l:=qO a a.length;have m:∀i∈kB a a.length,0<=i/\∃c,o.cases[i.toNat]?=some c/\iF o i=some c:=λi q=>by obtain⟨j,f,rfl⟩:=ak3.1 (l.mem_iff.1 q);have f:=bI2.1 f;obtain⟨c,d⟩:∃c,o.cases[j]?=some c:=⟨_,fv oX⟩;refine⟨oX,c,by simpa using d,?_⟩;have:=k.cs c (lf d);unfold iF idx;rw[aF oX];simp only[oU,d,bW,eN];rw[aF co2]
 let H:Int->Int×Int:=λi=>(i,((o.cases[i.toNat]?).map (·.ch)).getD 0)
 have u:(kB a a.length).mapM (λi=>(iF o i).map λc=>(i,c.ch))=some ((kB a a.length).map H):=by grind [bk7]
 refine⟨((kB a a.length).map H).filter λp=>cZ w p.2,?_,λp v=>?_,?_,?_⟩
 .grind [aT3]
 .grind [zu]
 .grind [Zo]
 grind [List.length_map,List.Perm.length_eq,Vz.cl]
theorem PJ{y:bI}{j:List (Int×Int)}(v:∀d∈j,0<=d.1/\∃c,(aP y).cases[d.1.toNat]?=some c/\d.2=c.ch/\1<=c.ch/\c.ch<=p)(G:(j.map (·.1)).Nodup)(H:j.length<=6)(A:j≠[])(q:y.aH=j.map (·.1))(B:y.aq=kf (j.map (·.2))):gU p y:=by
 obtain⟨a,b⟩:=DH (j.map (·.2));have k:∀d∈j,d.2∈y.aq:=λd m=>cp2
 refine⟨by rw[q];simpa using A,λi C=>?_,by rw[q];exact G,by rw[q];simpa using H,λl D=>?_,by rw[B];exact a,?_⟩
 .rw[q]at C;obtain⟨d,m,rfl⟩:=ak3.1 C;obtain⟨E,c,F,f,r,u⟩:=v d m;exact⟨E,c,F,r,u,f▸k d m⟩
 .rw[B]at D;obtain⟨d,m,rfl⟩:=ak3.1 ((b l).1 D).1;obtain⟨E,c,F,f,r,u⟩:=v d m;rw[f];exact⟨r,u⟩
 obtain⟨d,I,rfl⟩:=List.exists_cons_of_ne_nil A;exact List.ne_nil_of_mem (k d sX)
structure wE(w w':Wd):Prop where
 ops:w'.gs.map (·.ops)=w.gs.map (·.ops)
 av:w'.av=w.av
 list:w'.list=w.list
 drawn:w.drawn<=w'.drawn/\(w'.drawn<=w.drawn\/w'.drawn<=w.list)
 done:w'.done=w.done
 au:w.au<=w'.au.length
theorem I9(I:Inv w N)(hx:w.gs[n]?=e)(d:Na w n)(f:e.ae=0)(c:e.at_<e.ops)(i:(aP e).ai=9)(r:0<=w.drawn)(j:kJ w.drawn):∃w',jT w n=some w'/\Inv w' N/\wE w w':=by
 obtain⟨A,q⟩:=KC I hx c;have k:(w.ay n {bu e with call:=w.av}).gs[n]?=some {bu e with call:=w.av}:=di (x:=e) _ hx;obtain⟨b,u,c1,c2,c3⟩:=Mo (w:=w.ay n {bu e with call:=w.av}) q (gy w.list w.drawn 0 (aP e).cases.length).1 (sr _ _ _ _);have B:=Cg w.list (aP e).cases.length 0 w.drawn r;have C:=q.cl;have a:jT w n=gM (w.ay n {bu e with call:=w.av}) n (aP e):=by unfold jT;grind
 rw[a];unfold gM;have l:(w.ay n {bu e with call:=w.av}).drawn=w.drawn:=rfl;have m:(w.ay n {bu e with call:=w.av}).list=w.list:=rfl;rw[l,m,aE (by rw[j];simp;omega)];simp only[u,k,bW,eN];have p:∀y:bI,(w.gs.set n y)[n]?=some y:=λy=>di (x:=e) y hx
 by_cases h:b≠[]
 .rw[aF h];simp only[Gt,fL,Wd.ay,my,p,km];refine⟨_,ii,?_⟩;have F:nC e {bu e with call:=w.av,aH:=b.map (·.1),aq:=kf (b.map (·.2)),ae:=24}:=⟨ii,ii,ii,ii,ii,ii,ii,λ_=>⟨ii,ii,ii⟩,λ_=>⟨ii,ii,ii⟩⟩;obtain⟨J,K⟩:=I.IG hx d f c F sX (by rw[i];simp[bG]) (λh=>cj5) (λ_=>PJ c1 c2 c3 h ii ii) (λ_ h=>cj5);exact cb6
 rw[aE h]
 cases v:(aP e).dG with
 |true=>
  simp only[dt];simp only[Nc,fL,Wd.ay,my,p,km];refine⟨_,ii,?_⟩;have F:nC e {bu e with call:=w.av,aH:=b.map (·.1),aq:=kf (b.map (·.2)),res:={aJ:=2,case:= -1},lQ:=w.av,ae:=18}:=⟨ii,ii,ii,ii,ii,ii,ii,λ_=>⟨ii,ii,ii⟩,λh=>cj5⟩;obtain⟨J,K⟩:=I.IG hx d f c F sX (by rw[i];simp[bG]) (λh=>cj5) (λh=>cj5) (λ_ _=> .inr (.inl ⟨ii,v,ii⟩));exact cb6
 |false=>
  simp only[nW,dF];simp only[never,Gt,fL,Wd.ay,my,p,km];refine⟨_,ii,?_⟩;have F:nC e {bu e with call:=w.av,aH:=b.map (·.1),aq:=kf (b.map (·.2)),ae:=19}:=⟨ii,ii,ii,ii,ii,ii,ii,λ_=>⟨ii,ii,ii⟩,λh=>cj5⟩;obtain⟨J,K⟩:=I.Pm hx d f c F ii (by rw[i];simp[bG]);exact cb6
end
section
variable{w:Wd}{g s:Nat}{x y:bI}{o:cu}
theorem gU.more(S:gU p x):gU (p+1) x:=
 ⟨S.ne,λi a=>by obtain⟨b,c,d,f,m,j⟩:=S.ord i a;exact⟨b,c,d,f,oX,j⟩,S.nd,S.len,λl k=>by have:=S.lk l k;omega,S.BD,S.Ei⟩
theorem cV.more(h:cV o p x):cV o (p+1) x:=by
 grind [cV]
theorem Loc.more(L:Loc p x):Loc (p+1) x:=
 {L with
  cZ:=λd f h i j=>by have:=L.cZ d f h i j;omega
  oW:=λd f h i j=>by obtain⟨a,b,c⟩:=L.oW d f h i j;exact⟨a.more,b,c⟩
  res:=λd f=>(L.res d f).more}
theorem Tc(L:Loc p x)(h:aL x Y):1<=Y/\Y<=p:=by
 unfold aL at h;split at h
 .rename_i d;have f:bC x≠0:=by intro b;rw[b]at h;simp at h
  have c:x.ae≠0/\x.ae≠17/\x.ae≠18/\x.ae≠19:=by grind [bC]
  obtain⟨a,_,_⟩:=L.oW d c.1 c.2.1 c.2.2.1 c.2.2.2;exact a.lk Y (bH9 h)
 rename_i d;unfold cH at h;rw[h.2];exact L.cZ d oX oX oX oX
theorem Inv.grow(I:Inv w N)(l:w.au.length<8){r:Ring}(m:r.Ok)(b:Bool):Inv ({w with au:=w.au++[r],aO:=w.aO++[b],aq:=w.aq++[-1]}:Wd) N:=by
 refine⟨I.n8,I.ax,ci8,by simp[I.aO],by simp[I.aq],λn h=>?_,I.JZ,I.aS,I.bM,I.Eg,I.q,λg x f=>by simp only[aU7,sV,aj6];exact(I.loc g x f).more,?_,I.cK,I.bY,I.bA,I.EJ,I.look,I.claim,I.pE,I.served,I.st,I.jn,I.pg,I.rf⟩
 .grind [au]
 intro c h d;by_cases i:c<w.aq.length
 .rw[Ev i]at d;exact I.lock c h d
 rw[Ew oX]at d;have j:c-w.aq.length=0:=cp2
 rw[j]at d;simp at d;subst d;refine⟨oX,oX,λg x f=>⟨λk=>?_,λa=>oX⟩⟩;have:=Tc (I.loc g x f) k;have:=I.aq;omega
theorem Td(I:Inv w N)(hx:w.gs[g]?=x)(hs:Na w g)(b:x.ae=20)(f:(aP x).ai=1):∃t,doS w g=some t/\Inv t N/\wE w t:=by
 have L:=bT4;obtain⟨i,j⟩:=pj I hx oX;have l:=j.n;have c:(aP x).ai≠9:=oX
 unfold doS makeChan;simp only[i,hx,bW,eN,aF f];by_cases d:8<=w.au.length
 .rw[aF d];refine⟨_,ii,?_⟩;obtain⟨m1,m2,m3⟩:=M.o20 L c b w.av {aJ:=7,case:= -1} rfl;obtain⟨J,K⟩:=bU5;exact⟨J,K.ops,K.av,K.list,by rw[K.drawn];omega,K.done,at4 K.au.symm⟩
 rw[aE d,aE oX];refine⟨_,ii,?_⟩;obtain⟨m1,m2,m3⟩:=M.o20 L c b w.av {aJ:=1,case:= -1,ok:=true,n:=w.au.length+1} rfl;obtain⟨J,K⟩:=bU5;have k:w.au.length+1-w.aq.length=1:=by have:=I.aq;omega
 have a:Ring.Ok {pl0:=List.replicate (aP x).n.toNat 0}:=
  ⟨ae1 0,by simp only[vE,at6];omega,ae1 0,by simp only[vE];omega,by simp only[vE];omega⟩
 have Z:=J.grow (r:={pl0:=List.replicate (aP x).n.toNat 0}) (by show w.au.length<8;omega) a false;rw[k];simp only[List.replicate_one];exact⟨Z,K.ops,K.av,K.list,⟨ae1 _,.inl (ae1 _)⟩,K.done,by show w.au.length<=(w.au++[_]).length;simp⟩
theorem bK.d(K:bK w t):wE w t:=⟨K.ops,K.av,K.list,by rw[K.drawn];omega,K.done,at4 K.au.symm⟩
section
variable(I:Inv w N)(hx:w.gs[g]?=x)(hs:Na w g)
include I hx hs
theorem WI(a:x.ae=20):∃t,doS w g=some t/\Inv t N/\wE w t:=by
 by_cases b:(aP x).ai=1
 .grind [Td]
 obtain⟨t,c,f,h⟩:=Tb I hx hs a b;grind [bK.d]
theorem Mp(a:x.ae=0)(l:0<=w.drawn)(b:kJ w.drawn):∃t,jT w g=some t/\Inv t N/\wE w t:=by
 by_cases c:x.at_<x.ops.length
 .by_cases f:(aP x).ai=9
  .grind [I9]
  obtain⟨t,i,j,k⟩:=I8 I hx hs a c f;grind [bK.d]
 obtain⟨t,i,j,k⟩:=PI I hx hs a oX;grind [bK.d]
end
theorem nN{a:Option Wd}{t:Wd}(h:a=t):yes a=(t,true):=by rw[h];rfl
theorem ud(I:Inv w N)(hx:w.gs[g]?=x)(i:Na w g)(n:2<=(aP x).ai/\(aP x).ai<=6)(j:x.ae=4\/x.ae=12\/x.ae=13\/x.ae=15\/x.ae=16\/x.ae=17):∃t k,gH w g=(t,true)/\Inv t k/\bK w t:=by
 have L:=bT4;obtain⟨l,q⟩:=pj I hx oX;have d:=bU4
 have a:gH w g=(if x.ae=4 then(Mach.lock w g ((aP x).ch-1)).map (·,true)
  else if x.ae=12 then some ((free w ((aP x).ch-1) g).ay g {x with ae:=13},true)
  else if x.ae=13 then some ({w.ay g {x with ae:=14}with ax:=(tD w.ax g).1},true)
  else if x.ae=15 then do
   let s <-nat? x.bY
   let _ <-w.ah[s]?
   some ((({w.cJ s {}with Eg:=(w.Eg.nh g x.bY).1}:Wd).ay g {x with bY:= -1,ae:=18}),true)
  else if x.ae=16 then(dk (free w ((aP x).ch-1) g) g).map (·,true)
  else if x.ae=17 then do
   let z <-x.OK[0]?
   (dk (({w with ax:=(ready w.ax z).1}:Wd).ay g {x with OK:=x.OK.drop 1}) g).map (·,true)
  else some (w,false)):=by
  unfold gH;simp only[hx,l,bW,eN]
 rw[a];clear a;rcases j with h|h|h|h|h|h
 .rw[aF h];grind [OY]
 .rw[aE oX,aF h];have f:(aP x).ai=2\/(aP x).ai=3:=by rw[h]at d;simpa[bG]using d
  obtain⟨b,c⟩:=Fw I hx i f h;grind
 .rw[aE oX,aE oX,aF h];have f:((aP x).ai=2\/(aP x).ai=3)\/(aP x).ai=9:=by rw[h]at d;simpa[bG]using d
  obtain⟨b,c⟩:=Fy I hx i oX h;grind
 .rw[aE oX,aE oX,aE oX,aF h];have f:(aP x).ai=2\/(aP x).ai=3:=by rw[h]at d;simpa[bG]using d
  obtain⟨s,sd,m,r,b,c⟩:=LZ I hx i f h;refine⟨_,N,?_,b,c⟩;have u:nat? x.bY=s:=by unfold nat?;rw[aF oX];simp[m]
  grind
 .rw[aE oX,aE oX,aE oX,aE oX,aF h];grind [ID]
 rw[aE oX,aE oX,aE oX,aE oX,aE oX,aF h];grind [Cb]
end
end V
open Go.RowKit Go.Proofs.Tryz
section
variable{af:Nat}{F:Fx}{w w0:World}{m m0:Mem}{S:Wd}{L:List (Nat×Obj)}
structure DW(af:Nat)(F:Fx)(m:Mem)(w:World)(S:Wd)(L:List (Nat×Obj))(H b n k:Nat)(wr:World):Prop where
 ab:AB af F m w m wr {S with drawn:=(fI S.list S.drawn k).2} L
 own:aX7 m H L wr (b,k,n) k (fI S.list S.drawn k).1
theorem TN(X:AB af F m0 w0 m w S L)(a:∀v∈S.list,0<=v/\v<=65535){n:Int}(b:1<=n/\n<=100000)(c:0<=S.drawn/\S.drawn<=1000000):gt 197 #[F.gN,n] w (eL (gw S.list S.drawn n).1 λw'=>At af F m w m w' {S with drawn:=(gw S.list S.drawn n).2}):=
 Mx X.bj a n b c
theorem uh(X:AB af F m0 w0 m w S L)(a:Int):gt 138 #[F.aQ,a] w λe w'=>e=Value.bool (cZ S a)/\w=w':=aJ5 X.bj a
theorem vo(X0:AB af F m w m w S L)(g:Nat)(x:bI)(hx:S.gs[g]?=x)(o:cu)(dj:o.cases.length<=1000)(hl:∀v∈S.list,0<=v/\v<=65535)(h0:0<=S.drawn/\S.drawn<=100000)(y:am)(E:Nat)(fa:o.cases=[]\/∃G ob,y=some ⟨G,0,none⟩/\(G,ob)∈L/\CB G ob o.cases)(a:ce)(TO:a=rz (fI S.list S.drawn o.cases).1 o.cases)(cU:∀i∈a,∃j:Nat,i=j/\∃c,o.cases[j]?=some c/\c.ch=zG o i/\ -1000000000<=c.ch/\c.ch<=1000000000)(S7:Wd)(a1:S7=({S with drawn:=(fI S.list S.drawn o.cases).2}:Wd).ay g {x with aH:=(lY S o a).map (·.1),aq:=rZ ((lY S o a).map (·.2))})(S':Wd)(hm:(if(lY S o a).map (·.1)≠[]then Gt S7 g 24 else if o.dG then Nc S7 g 2 else never S7 g)=S'):gt 141 #[bR F,I g,.agg #[o.ai,o.ch,o.n,o.v,(y,o.cases.length,E),o.dG]] w (ee (To af F m w S')):=by
 obtain⟨i0,hi,fV,jC,gG⟩:=AC lC;have XV:=ag a1;have z:=ag hm;clear a1 hm;obtain⟨n,hn⟩:=bN3
 have j8:∀W:World,(∀p∈L,W.heap[p.1]?=some p.2)->∀(j:Nat) c,o.cases[j]?=some c->∃G,y=some ⟨G,0,none⟩/\W.cell? ⟨G,j*3+1,none⟩=some (I c.ch):=by
  intro W hW j c hj;rcases fa with h|⟨G,ob,h1,h2,h3⟩
  .rw[h]at hj;cases hj
  exact⟨G,h1,(h3 W (hW _ h2) j c hj).2.1⟩
 have J9:=ag j8;have aJ:=ag cU;have a2:a.length=n:=by rw[TO,rK,hn]
 rw[<-hn]at dj TO XV ⊢;have aK:=ag TO;have H:=ag a2;have HX:=ag (X0.alloc (.cells #[I o.ai,I o.ch,I o.n,I o.v,.slice y n E,B o.dG] 49));have oR:=bL7;have HN:=ag hn;clear X0 hn fa j8 cU TO a2 hx;unfold bR;go_enter func141,ntmps141;go_wp2_with (at_make;go_loud (refine wpList_make_own _ ii _ _ 28 rfl (w.heap.size+1) 3 i0 (.int .i64 0) 1 underlying28 hi fV jC _ _ _ n ii ii ii cl1 cj7 sX ?_));intro w1 M bX;have a3:(w.alloc (.cells #[I o.ai,I o.ch,I o.n,I o.v,.slice y n E,B o.dG] 49)).heap.size=w.heap.size+1:=sX
 have X1:AB af F m w m w1 S _:=HX.out.af0 (v:=.slice none 0 0) (λg h=>ck3) (λg h=>ck3) bX;obtain⟨q0,q1,q2,q3,q4,q5⟩:=jD X1.head;have Vd:aX7 m (w.heap.size+1) ((w.heap.size,.cells #[I o.ai,I o.ch,I o.n,I o.v,.slice y n E,B o.dG] 49)::L) w1 (.slice (some ⟨w.heap.size+1,0,none⟩) 0 n) 0 []:=by refine⟨by simpa using M,λg hg=>?_⟩;simp[Value.ownBlock]at hg;subst hg;exact⟨HX.out.bj.iT (by rw[a3];exact rx _),λp hp=>by have:=HX.out.Qo p hp;rw[a3]at this;exact this⟩
 have A:Hid (DW af F m w S ((w.heap.size,.cells #[I o.ai,I o.ch,I o.n,I o.v,.slice y n E,B o.dG] 49)::L) (w.heap.size+1) (w.heap.size+1) n 0 w1):=⟨X1,Vd⟩;clear X1 M Vd bX;have RJ:=ag (λ(k:Nat)=>ke S.list S.drawn k);go_wp2;go_loopw [6,7,21] (λv _ q wr=>∃k:Nat,v=.slice (some ⟨w.heap.size+1,0,none⟩) k n/\q=.int .i64 k/\k<=n/\Hid (DW af F m w S ((w.heap.size,.cells #[I o.ai,I o.ch,I o.n,I o.v,.slice y n E,B o.dG] 49)::L) (w.heap.size+1) (w.heap.size+1) n k wr)) (λ_ _ q _=>n-(intOf q).toNat)
 case atStart=>exact⟨0,ii,ii,oX,A⟩
 clear A;obtain⟨k,rfl,rfl,hk,A⟩:=hrel;by_cases dD:k<n
 .have R:=A.out.ab.bj;have O:=R.Us;have Q:=bO9;have f:=DG S.list S.drawn k;have d:0<=(fI S.list S.drawn k).2/\(fI S.list S.drawn k).2<=1000000:=by omega
  have r:=ag d;clear R f d;go_wp2_with (first|(go_at_call 197;refine(TN (S:={S with drawn:=(fI S.list S.drawn k).2}) (A.out.ab.aI (w':=_) ii ii ii ii) hl (n:=(k:Int)+1) oX r).mono ?_;rintro e w2 ⟨rfl,s⟩;have K:=ag s;have t:=ag (A.out.own.av s);clear s)|(at_builtin;go_loud (refine wpList_append_fits _ ii (.tmp 24) (.tmp 32) 28 rfl (w.heap.size+1) 3 i0 1 underlying28 hi jC (w.heap.size+1) k n _ ii (t.out.own.alloc _) ⟨w2.heap.size,0,none⟩ 1 1 [.int .i64 (gw S.list (fI S.list S.drawn k).2 ((k:Int)+1)).1] ii ii (cell_one_new _ _ _) cq2 oX ?_)));intro w3 J zO
  have C:Hid (DW af F m w S ((w.heap.size,.cells #[I o.ai,I o.ch,I o.n,I o.v,.slice y n E,B o.dG] 49)::L) (w.heap.size+1) (w.heap.size+1) n (k+1) w3):=by
   have N:=t.out.free;have Y:=((A.out.ab.av K).alloc (.cells #[I (gw S.list (fI S.list S.drawn k).2 ((k:Int)+1)).1] 3)).less (L':=(w.heap.size,.cells #[I o.ai,I o.ch,I o.n,I o.v,.slice y n E,B o.dG] 49)::L) (λp hp=>nO _ hp);refine⟨Y.af0 (v:=.slice (some ⟨w.heap.size+1,0,none⟩) k n) N (λg h=>?_) zO,⟨?_,N⟩⟩
   .grind [Value.ownBlock]
   grind [fI]
  clear K t J zO A;go_wp2;go_roundw
  case rel=>exact⟨k+1,ii,cj8,oX,C⟩
  simp[intOf];omega
 obtain rfl:k=n:=oX
 have jF:Rd .i64 wr (some ⟨w.heap.size+1,0,none⟩) (fI S.list S.drawn k).1:=by
  have h:=A.out.own.own;have h2:yv (w.heap.size+1) wr (.slice (some ⟨w.heap.size+1,0,none⟩) k k) (fI S.list S.drawn k).1:=by grind [yv,ke]
  grind [yv.rd,ke]
 have CZ:=ag jF;have a4:=ag A.out.ab;clear jF A;go_wp2_with (go_at_call 198;refine(Lc (fI S.list S.drawn k).1 k (ke _ _ _).symm (some ⟨w.heap.size+1,0,none⟩) k _ CZ dj).mono ?_;rintro e f ⟨b0,rfl,N,a5⟩;rw[<-aK.out]at N;obtain⟨ao,cap,rfl,a6⟩:=N.rd (by rw[H.out];omega);rw[H.out];obtain⟨aN,IX⟩:=dA a6 a5;clear N a6 a5);have Qp:=ag ((a4.out.below IX));have SA:Hid (vk f.heap.size f f (.slice none 0 0) (.slice none 0 0) [] []):=⟨fp,rx _,ai9 _ _ _ _,ai9 _ _ _ _,λg h=>ck3⟩;clear a4 CZ IX q0 q1 q2 q3 q4 q5;go_loopw [8,9,38] (λv8 v9 q aO=>∃j:Nat,q=.int .i64 j/\j<=k/\Hid (vk f.heap.size f aO v8 v9 ((lY S o (a.take j)).map (·.1)) ((lY S o (a.take j)).map (·.2)))) (λ_ _ q _=>k-(intOf q).toNat)
 case atStart=>exact⟨0,ii,oX,SA⟩
 obtain⟨j,rfl,hj,d⟩:=hrel;by_cases rT:j<k
 .have X:j<a.length:=by rw[H.out];exact rT
  obtain⟨b,off,rfl,hc⟩:=aN.out.at j X;obtain⟨i,Xy⟩:∃i,i=a.getD j 0:=⟨_,ii⟩;have U4:a[j]?=some i:=by rw[Xy,c9X,fv X];rfl
  have xT:a.take (j+1)=a.take j++[i]:=by rw[al6,U4];rfl
  obtain⟨T,rfl,c,O,Z,cR,G9⟩:=aJ.out i (lf U4);rw[<-Xy]at hc;have C:=Qp.out.below d.out.DS;have xz:=(Below.cell d.out.DS (p:=⟨b,off+j,none⟩) (ba0 _ _ hc)).trans hc;obtain⟨G,rfl,Ws⟩:=J9.out wr (λp hp=>(C.loc p (nO _ hp)).1) T c O;obtain⟨q0,q1,q2,q3,q4,q5⟩:=jD C.head;have Zm:T<k:=by rw[HN.out];exact(um O)
  rw[Z]at Ws cR G9;obtain⟨t,bO⟩:=dC (zG o T);rw[<-bO]at Ws cR G9;have WG:=ag bO;obtain⟨r,Q⟩:∃l,l=(lY S o (a.take j)).map (·.1):=⟨_,ii⟩;obtain⟨s,h9⟩:∃l,l=(lY S o (a.take j)).map (·.2):=⟨_,ii⟩;have J8:r.length<=1000/\s.length<=1000:=by grind [Ck]
  obtain⟨Er,K⟩:=J8;rw[<-Q,<-h9]at d;obtain⟨H8,H9,a7,ad⟩:=ia Q h9 xT C;clear hc Q h9 xT bO Z O U4 Xy C SA;have aR:=ag d.out.hB;by_cases U:cZ S t=true
  .have HM:Hid (∀W:World,W.heap=wr.heap->W.os=wr.os->W.tape=wr.tape->W.output=wr.output->gt 138 #[.pointer (some ⟨F.aQ,0,none⟩),I t] W λe w'=>e=.returned (.bool true)/\W=w'):=λW e1 e2 e3 e4=>by
    have:=uh (ad.out.aI e1 e2 e3 e4) t;rw[<-U];exact this
   have MF:=ag U;clear U;go_wp2_with (first|(go_at_call 138;refine(HM _ ii ii ii ii).mono ?_;rintro e w2 ⟨rfl,rfl⟩)|(at_builtin;go_loud (refine aX3 ii (.tmp 51) (.tmp 53) 28 rfl f.heap.size 3 i0 (.int .i64 0) 8 underlying28 hi fV jC gG ii r.length (r.map I) ii (ou (o:=.cells #[I T] 3) d.out.o8 ii) ⟨wr.heap.size,0,none⟩ 1 (I T) ii (vZ) ii cj7 oX (by simp;have:=aR.out;omega) ?_)));intro g2 hU w2 fu jV ah;have En:=ag (d.out.Va (o:=.cells #[I T] 3) ii ii ii ii fu jV (ah.imp (λh=>⟨_,h⟩) (λh=>cu4)));have aS:=ag En.out.hB;clear fu jV ah d q0 q1 q2 q3 q4 q5 xz Ws;go_wp2_with (at_builtin;go_loud (refine aX3 ii (.tmp 55) (.tmp 57) 28 rfl f.heap.size 3 i0 (.int .i64 0) 8 underlying28 hi fV jC gG ii s.length (s.map I) ii (ou (o:=.cells #[I t] 3) En.out.o9 ii) ⟨w2.heap.size,0,none⟩ 1 (I t) ii (vZ) ii cj7 oX (by simp;have:=aS.out;omega) ?_));intro g3 Oh w3 J zO KI;have Eo:=ag (En.out.af1 (o:=.cells #[I t] 3) ii ii ii ii J zO (KI.imp (λh=>⟨_,h⟩) (λh=>cu4)));clear J zO KI En;have HP4:Hid (vk f.heap.size f w3 (.slice (some ⟨g2,0,none⟩) (r.length+1) hU) (.slice (some ⟨g3,0,none⟩) (s.length+1) Oh) ((lY S o (a.take (j+1))).map (·.1)) ((lY S o (a.take (j+1))).map (·.2))):=(by have h:=Eo.out;rw[H8.out,H9.out]at h ⊢;rw[a7.out,zH,<-WG.out,aF MF.out,al1,al1];exact h);clear Eo;go_wp2;exact ch3
  have HM:Hid (∀W:World,W.heap=wr.heap->W.os=wr.os->W.tape=wr.tape->W.output=wr.output->gt 138 #[.pointer (some ⟨F.aQ,0,none⟩),I t] W λe w'=>e=.returned (.bool false)/\W=w'):=λW e1 e2 e3 e4=>by have:=uh (ad.out.aI e1 e2 e3 e4) t;rw[show cZ {S with drawn:=(fI S.list S.drawn k).2} t=false by simpa[cZ]using U]at this;exact this
  have MF:Hid (¬cZ S t=true):=ag U;clear U;have HP4:Hid (vk f.heap.size f wr u8 u9 ((lY S o (a.take (j+1))).map (·.1)) ((lY S o (a.take (j+1))).map (·.2))):=by have h:=d.out;rw[H8.out,H9.out]at h;rw[a7.out,zH,<-WG.out,aE MF.out,at7];exact h
  have Ve:=ag (d.out);go_wp2_with (go_at_call 138;refine(HM _ ii ii ii ii).mono ?_;rintro e w2 ⟨rfl,rfl⟩);exact ch3
 obtain rfl:j=k:=oX
 rw[show a.take j=a by rw[<-H.out,aj3]]at d;have eM:g<S.gs.length:=um oR;obtain⟨r,Q⟩:∃l,l=(lY S o a).map (·.1):=⟨_,ii⟩;obtain⟨s,h9⟩:∃l,l=(lY S o a).map (·.2):=⟨_,ii⟩;have J8:r.length<=1000/\s.length<=1000:=by grind [Ck,Hid.out]
 obtain⟨Er,K⟩:=J8;rw[<-Q,<-h9]at d XV;rw[<-Q]at z;have O:=Qp.out.below d.out.DS;have R:=O.bj;have RA:=Qp.out.bj;have c3:=R.eu;have l1:=bU6;have l2:=bO9;have lA:=RA.lt RA.aB.gs;have fo:=R.frozen R.aB.gs (g*25+20);have co:=R.g oR 20 _ ii;have aU:F.gs≠w.heap.size:=O.ne R.aB.gs;obtain⟨q0,q1,q2,q3,q4,q5⟩:=jD O.head;have T:af<=f.heap.size:=RA.eS;have FI:w.heap.size<=f.heap.size:=Qp.out.at_.mv.size;have r8:∀gg,f.heap.size<=gg->(∀r',m.aV r'≠some gg)/\w.heap.size<=gg:=λgg h=>⟨RA.iT h,oX⟩
 obtain⟨a8,c8,rfl⟩:=qo d.out.o8;obtain⟨m5,A5,aY⟩:=At.Qe O.at_ oR ii (ql d.out.o8 T) (λgg G4=>r8 gg (pN d.out.o8 G4).1);have ak:yv f.heap.size (wr.setCell ⟨F.gs,g*25+20,none⟩ (.slice a8 r.length c8)) u9 s:=vl d.out.o9 λgg G4 dD=>by have:=(pN d.out.o9 G4).1;exact fQ (by show gg≠F.gs;omega)
 obtain⟨a9,c9,rfl,al⟩:=ak.rd oX;have U:=ag al;have vV:=ag A5;have Bm:Hid ((wr.setCell ⟨F.gs,g*25+20,none⟩ (.slice a8 r.length c8)).heap[w.heap.size]?=some (.cells #[I o.ai,I o.ch,I o.n,I o.v,.slice y j E,B o.dG] 49)/\w.heap.size<(wr.setCell ⟨F.gs,g*25+20,none⟩ (.slice a8 r.length c8)).heap.size):=by refine⟨(fQ (dE aU)).trans O.head,?_⟩;have:=(dh O.head).1;grind [World.setCell]
 have pS:Hid ((({S with drawn:=(fI S.list S.drawn j).2}:Wd).ay g {x with aH:=r}).gs[g]?=some {x with aH:=r}):=az oR;clear O R RA d SA Qp al A5 r8 aY ak Q h9 HX;have FO:Hid (S7.gs[g]?=some {x with aH:=r,aq:=rZ s}):=by rw[XV.out];exact az oR
 by_cases Fu:r=[]
 .subst Fu;have t:=z.out;rw[aE sX]at t;clear z
  cases XQ:o.dG with
  |true=>
   rw[XQ]at t;rw[aF rfl]at t;have X:=ag t;clear t;rw[XQ]at Bm;go_wp2_with (first|(go_at_call 199;refine(vW s s.length ii a9 c9 U K).mono ?_;rintro e w6 ⟨ar,rfl,Gl,yD⟩;obtain⟨au,aw,rfl⟩:=qo Gl;have A6:=vV.out.heap yD;have R6:=A6.bj;obtain⟨R5,ax,f21,aC,aG,c2,f2⟩:=bJ6;obtain⟨m7,C⟩:=bU7;obtain⟨z0,z1,z2,z3,z4,z5⟩:=bU8;rw[aA,<-XV.out]at C;have Z:=ag C;clear A6 C R6 R5 Gl yD)|(go_at_call 140;refine(bj9 Z.out.bj g 2 S' X).mono ?_;rintro e w8 ⟨rfl,A8⟩;have a0:=ag (Z.out.cont A8);clear A8));go_end0;exact⟨ii,_,a0⟩
  |false=>
   rw[XQ]at t;rw[aE sX]at t;have X:=ag t;clear t;rw[XQ]at Bm;go_wp2_with (first|(go_at_call 199;refine(vW s s.length ii a9 c9 U K).mono ?_;rintro e w6 ⟨ar,rfl,Gl,yD⟩;obtain⟨au,aw,rfl⟩:=qo Gl;have A6:=vV.out.heap yD;have R6:=A6.bj;obtain⟨R5,ax,f21,aC,aG,c2,f2⟩:=bJ6;obtain⟨m7,C⟩:=bU7;obtain⟨z0,z1,z2,z3,z4,z5⟩:=bU8;rw[aA,<-XV.out]at C;have Z:=ag C;clear A6 C R6 R5 Gl yD)|(go_at_call 139;refine(zC Z.out.bj g S' X).mono ?_;rintro e w8 ⟨rfl,A8⟩;have a0:=ag (Z.out.cont A8);clear A8));go_end0;exact⟨ii,_,a0⟩
 have t:=z.out;rw[aF Fu]at t;obtain⟨xx,X,rfl⟩:=Nb t;rw[FO.out]at X
 cases X;have aZ:0<r.length:=pd Fu;clear t z Fu;go_wp2_with (go_at_call 199;refine(vW s s.length ii a9 c9 U K).mono ?_;rintro e w6 ⟨ar,rfl,Gl,yD⟩;obtain⟨au,aw,rfl⟩:=qo Gl;have A6:=vV.out.heap yD;have R6:=A6.bj;obtain⟨R5,ax,f21,aC,aG,c2,f2⟩:=bJ6;obtain⟨m7,C⟩:=bU7;obtain⟨z0,z1,z2,z3,z4,z5⟩:=bU8;rw[aA,<-XV.out]at C;have Z:=ag C;clear A6 C R6 R5 Gl yD);go_end0;have A8:=Z.out.g FO {x with aH:=r,aq:=rZ s,ae:=24} (q:=2) (v:=I 24)
 exact⟨ii,_,A8⟩
section
variable(X:AB af F m0 w0 m w S L)
include X
theorem sB(c:S.gs[b]?=e):gt 84 #[bR F,I b] w (ee λw'=>∃D,AB af F m0 w0 D w' (S.ay b (bu e)) L):=
 (yE X.bj b e c).mono λa w' ⟨d,D,f⟩=>⟨d,D,X.av f⟩
theorem Qq(g:Nat){S':Wd}(a:never S g=S'):gt 139 #[bR F,I g] w (ee λw'=>AB af F m0 w0 m w' S' L):=
 (zC X.bj g S' a).mono λe w' ⟨b,c⟩=>⟨b,X.av c⟩
theorem by9(g:Nat)(a:Int){S':Wd}(b:Nc S g a=S'):gt 140 #[bR F,I g,a] w (ee λw'=>AB af F m0 w0 m w' S' L):=
 (bj9 X.bj g a S' b).mono λe w' ⟨c,d⟩=>⟨c,X.av d⟩
theorem sC{o:cu}(i:o.cases.length<=1000)(j:∀v∈S.list,0<=v/\v<=65535)(k:0<=S.drawn/\S.drawn<=100000)(c:am)(f:Nat)(l:o.cases=[]\/∃d g,c=some ⟨d,0,none⟩/\(d,g)∈L/\CB d g o.cases){S':Wd}(a:gM S b o=S'):gt 141 #[F.aQ,I b,.agg #[o.ai,o.ch,o.n,o.v,(c,o.cases.length,f),o.dG]] w (ee (To af F m0 w0 S')):=by
 unfold gM at a;split at a
 .cases a
 simp only[I6,bW,cI]at a;obtain⟨t,p,x,q,a⟩:=a;obtain⟨h,rfl⟩:=Ji p;rw[ke]at h a;refine(vo ⟨At.refl X.bj,X.loc⟩ b x q o i j k c f l _ ii h _ ii S' ?_).mono λe w' ⟨r,D,s⟩=>⟨r,D,X.at_.cont s⟩
 rw[I7]at a;simpa using a
end
section
variable(R:bz af F w m S)(g:Nat)(x:bI)(hx:S.gs[g]?=x)(ks:0<=x.at_/\x.at_<x.ops)(o:cu)(ho:dH S g=o)(dj:o.cases.length<=1000)
include R g x hx ks o ho dj
theorem pw{b:Bool}(i:cZ S o.ch=b)(S':Wd)(j:S'=S.ay g {bu x with call:=S.av,ae:=Y})(hk:(o.ai=1/\Y=20)\/(o.ai=7/\Y=20)\/(o.ai=8/\Y=20)\/(o.ai=2/\Y=4/\b)\/(o.ai=3/\Y=4/\b)\/(o.ai=6/\Y=4/\b)\/(o.ai=4/\Y=1/\b)\/(o.ai=5/\Y=1/\b)):gt 89 #[bR F,I g] w (ee (To af F m w S')):=by
 obtain⟨W,c3,k⟩:=bL0;obtain⟨Z,c0,l⟩:=mE R hx;rw[l]at k;have p1:=bM5;have Gu:=bU6;have aU:=bO9;obtain⟨r,n⟩:=bN9;rw[<-n]at k;have Qr:decide ((r:Int)<=x.at_)=false:=ci8
 have s:=bU9;have xW:=ag R.eS;have t:=bM3;obtain⟨HX,u,y,d⟩:=ia hx ho i j;rcases hk with⟨hk,rfl⟩|⟨hk,rfl⟩|⟨hk,rfl⟩|⟨hk,rfl,rfl⟩|⟨hk,rfl,rfl⟩|⟨hk,rfl,rfl⟩|⟨hk,rfl,rfl⟩|⟨hk,rfl,rfl⟩
 all_goals
  first|have z:(o.ai==1)=false:=by rw[hk];rfl|have z:(o.ai==1)=true:=cj1
  first|have A:(o.ai==7)=false:=by rw[hk];rfl|have A:(o.ai==7)=true:=cj1
  first|have B:(o.ai==8)=false:=by rw[hk];rfl|have B:(o.ai==8)=true:=cj1
  first|have C:(o.ai==2)=false:=by rw[hk];rfl|have C:(o.ai==2)=true:=cj1
  first|have E:(o.ai==3)=false:=by rw[hk];rfl|have E:(o.ai==3)=true:=cj1
  first|have G:(o.ai==4)=false:=by rw[hk];rfl|have G:(o.ai==4)=true:=cj1
  first|have H:(o.ai==5)=false:=by rw[hk];rfl|have H:(o.ai==5)=true:=cj1
  first|have J:(o.ai==6)=false:=by rw[hk];rfl|have J:(o.ai==6)=true:=cj1
  first|have K:(o.ai==9)=false:=by rw[hk];rfl|have K:(o.ai==9)=true:=cj1
  clear R hx ho hk i j l n s;unfold bR;go_enter func89,ntmps89;go_wp2_with fail
  go_quiet (fail);go_wp2_with (first|(go_at_call 92;refine(Uq t.out.aI g HX u dj).mono ?_;rintro e w1 ⟨⟨cv,rfl,jB⟩,A1⟩;obtain⟨ca,cc,rfl⟩:=bV0;have M:=bV1;clear A1 jB)|(go_at_call 84;refine(sB M.out.aI HX).mono ?_;rintro e wN ⟨rfl,mN,X⟩;have RN:=bP5;obtain⟨q0,q1,q2,q3,q4,q5⟩:=bR6;obtain⟨N,O,r5,Q,r2,d3,d2,l1,l2,T,Au⟩:=bJ2;have n2:=T.symm;have Me:g<(S.ay g (bu x)).gs.length:=(uC (az HX)).1;have c:=bV2;rw[aA]at c;have U:=ag c;(first|(have a:=c.g (az HX) {bu x with call:=S.av,ae:=20} (q:=2) (v:=I 20);rw[aA,<-d.out]at a;have f:=ag a;clear a)|(have a:=c.g (az HX) {bu x with call:=S.av,ae:=4} (q:=2) (v:=I 4);rw[aA,<-d.out]at a;have f:=ag a;clear a)|(have a:=c.g (az HX) {bu x with call:=S.av,ae:=1} (q:=2) (v:=I 1);rw[aA,<-d.out]at a;have f:=ag a;clear a));clear X c RN)|(go_at_call 138;refine(uh (S:=S.ay g {bu x with call:=S.av}) U.out.aI o.ch).mono ?_;rintro e wM ⟨p,rfl⟩;rw[show cZ (S.ay g {bu x with call:=S.av}) o.ch=_ from y.out]at p;subst p));go_end0;exact⟨ii,_,f.out.at_⟩
theorem KJ(b:cZ S o.ch=false)(S':Wd)(c:never (S.ay g {bu x with call:=S.av}) g=S')(hk:o.ai=2\/o.ai=3):gt 89 #[bR F,I g] w (ee (To af F m w S')):=by
 obtain⟨U,c3,d⟩:=bL0;obtain⟨W,Y,f⟩:=mE R hx;rw[f]at d;have Z:=bM5;have Gu:=bU6;have aU:=bO9;obtain⟨n,i⟩:=bN9;rw[<-i]at d;have Qr:decide ((n:Int)<=x.at_)=false:=ci8
 have p:=bU9;have xW:=ag R.eS;have r:=bM3;obtain⟨HX,s,t,u⟩:=ia hx ho b c;rcases hk with hk|hk
 all_goals
  first|have y:(o.ai==1)=false:=by rw[hk];rfl|have y:(o.ai==1)=true:=cj1
  first|have z:(o.ai==7)=false:=by rw[hk];rfl|have z:(o.ai==7)=true:=cj1
  first|have A:(o.ai==8)=false:=by rw[hk];rfl|have A:(o.ai==8)=true:=cj1
  first|have B:(o.ai==2)=false:=by rw[hk];rfl|have B:(o.ai==2)=true:=cj1
  first|have C:(o.ai==3)=false:=by rw[hk];rfl|have C:(o.ai==3)=true:=cj1
  first|have E:(o.ai==4)=false:=by rw[hk];rfl|have E:(o.ai==4)=true:=cj1
  first|have G:(o.ai==5)=false:=by rw[hk];rfl|have G:(o.ai==5)=true:=cj1
  first|have H:(o.ai==6)=false:=by rw[hk];rfl|have H:(o.ai==6)=true:=cj1
  first|have J:(o.ai==9)=false:=by rw[hk];rfl|have J:(o.ai==9)=true:=cj1
  clear R hx ho hk b c f i p;unfold bR;go_enter func89,ntmps89;go_wp2_with fail
  go_quiet (fail);go_wp2_with (first|(go_at_call 92;refine(Uq r.out.aI g HX s dj).mono ?_;rintro e w1 ⟨⟨cv,rfl,jB⟩,A1⟩;obtain⟨ca,cc,rfl⟩:=bV0;have K:=bV1;clear A1 jB)|(go_at_call 84;refine(sB K.out.aI HX).mono ?_;rintro e wN ⟨rfl,mN,X⟩;have RN:=bP5;obtain⟨q0,q1,q2,q3,q4,q5⟩:=bR6;obtain⟨M,N,r5,O,r2,d3,d2,l1,l2,Q,Au⟩:=bJ2;have n2:=Q.symm;have Me:g<(S.ay g (bu x)).gs.length:=(uC (az HX)).1;have a:=bV2;rw[aA]at a;have j:=ag a;clear X a RN)|(go_at_call 138;refine(uh (S:=S.ay g {bu x with call:=S.av}) j.out.aI o.ch).mono ?_;rintro e wM ⟨k,rfl⟩;rw[show cZ (S.ay g {bu x with call:=S.av}) o.ch=_ from t.out]at k;subst k)|(go_at_call 139;refine(Qq (S:=S.ay g {bu x with call:=S.av}) j.out.aI g u).mono ?_;rintro e wK ⟨rfl,l⟩;have T:=ag l.at_;clear l));go_end0;exact⟨ii,_,T⟩
theorem DX(b:cZ S o.ch=false)(S':Wd)(c:Nc (S.ay g {bu x with call:=S.av}) g Y=S')(hk:(o.ai=4/\Y=2)\/(o.ai=5/\Y=2)\/(o.ai=6/\Y=5)):gt 89 #[bR F,I g] w (ee (To af F m w S')):=by
 obtain⟨U,c3,d⟩:=bL0;obtain⟨W,Z,f⟩:=mE R hx;rw[f]at d;have p1:=bM5;have Gu:=bU6;have aU:=bO9;obtain⟨n,i⟩:=bN9;rw[<-i]at d;have Qr:decide ((n:Int)<=x.at_)=false:=ci8
 have p:=bU9;have xW:=ag R.eS;have r:=bM3;obtain⟨HX,s,t,u⟩:=ia hx ho b c;rcases hk with⟨hk,rfl⟩|⟨hk,rfl⟩|⟨hk,rfl⟩
 all_goals
  first|have y:(o.ai==1)=false:=by rw[hk];rfl|have y:(o.ai==1)=true:=cj1
  first|have z:(o.ai==7)=false:=by rw[hk];rfl|have z:(o.ai==7)=true:=cj1
  first|have A:(o.ai==8)=false:=by rw[hk];rfl|have A:(o.ai==8)=true:=cj1
  first|have B:(o.ai==2)=false:=by rw[hk];rfl|have B:(o.ai==2)=true:=cj1
  first|have C:(o.ai==3)=false:=by rw[hk];rfl|have C:(o.ai==3)=true:=cj1
  first|have E:(o.ai==4)=false:=by rw[hk];rfl|have E:(o.ai==4)=true:=cj1
  first|have G:(o.ai==5)=false:=by rw[hk];rfl|have G:(o.ai==5)=true:=cj1
  first|have H:(o.ai==6)=false:=by rw[hk];rfl|have H:(o.ai==6)=true:=cj1
  first|have J:(o.ai==9)=false:=by rw[hk];rfl|have J:(o.ai==9)=true:=cj1
  clear R hx ho hk b c f i p;unfold bR;go_enter func89,ntmps89;go_wp2_with fail
  go_quiet (fail);go_wp2_with (first|(go_at_call 92;refine(Uq r.out.aI g HX s dj).mono ?_;rintro e w1 ⟨⟨cv,rfl,jB⟩,A1⟩;obtain⟨ca,cc,rfl⟩:=bV0;have K:=bV1;clear A1 jB)|(go_at_call 84;refine(sB K.out.aI HX).mono ?_;rintro e wN ⟨rfl,mN,X⟩;have RN:=bP5;obtain⟨q0,q1,q2,q3,q4,q5⟩:=bR6;obtain⟨M,N,r5,O,r2,d3,d2,l1,l2,Q,Au⟩:=bJ2;have n2:=Q.symm;have Me:g<(S.ay g (bu x)).gs.length:=(uC (az HX)).1;have a:=bV2;rw[aA]at a;have j:=ag a;clear X a RN)|(go_at_call 138;refine(uh (S:=S.ay g {bu x with call:=S.av}) j.out.aI o.ch).mono ?_;rintro e wM ⟨k,rfl⟩;rw[show cZ (S.ay g {bu x with call:=S.av}) o.ch=_ from t.out]at k;subst k)|(go_at_call 140;refine(by9 (S:=S.ay g {bu x with call:=S.av}) j.out.aI g _ u).mono ?_;rintro e wK ⟨rfl,l⟩;have T:=ag l.at_;clear l));go_end0;exact⟨ii,_,T⟩
theorem Qu(hk:o.ai=9)(b:Bool)(d:cZ S o.ch=b)(z:∀v∈S.list,0<=v/\v<=65535)(A:0<=S.drawn/\S.drawn<=100000)(S':Wd)(f:gM (S.ay g {bu x with call:=S.av}) g o=S')(i:o.cases≠[]):gt 89 #[bR F,I g] w (ee (To af F m w S')):=by
 obtain⟨eM,c3,j⟩:=bL0;obtain⟨a0,c0,k⟩:=mE R hx;rw[k]at j;have p1:=bM5;have Gu:=bU6;have aU:=bO9;obtain⟨B,l⟩:=bN9;rw[<-l]at j;have Qr:decide ((B:Int)<=x.at_)=false:=ci8
 have C:=bU9;have jg:(o.ai==1)=false:=cj1
 have TH:(o.ai==7)=false:=cj1
 have TI:(o.ai==8)=false:=cj1
 have jO:(o.ai==2)=false:=cj1
 have sk:(o.ai==3)=false:=cj1
 have Eu:(o.ai==4)=false:=cj1
 have Qs:(o.ai==5)=false:=cj1
 have Qt:(o.ai==6)=false:=cj1
 have oz:(o.ai==9)=true:=cj1
 have xW:=ag R.eS;have E:=bM3;obtain⟨HX,G,H,J⟩:=ia hx ho d f;have K:=ag i;have M:=ag R;clear R hx ho hk d f k l C i;unfold bR;go_enter func89,ntmps89;go_wp2_with fail
 go_quiet (fail);go_wp2_with (first|(go_at_call 92;refine(Uq E.out.aI g HX G dj).mono ?_;rintro e w1 ⟨⟨cv,rfl,n⟩,p⟩;obtain⟨a,r,N,rfl,s,t⟩:=n.block p M (rx w) K;have O:=ag s;have Q:=ag (t.alloc (iD o a r));clear p n t s)|(go_at_call 84;refine(sB Q.out.aI HX).mono ?_;rintro e wN ⟨rfl,mN,X⟩;have RN:=bP5;obtain⟨q0,q1,q2,q3,q4,q5⟩:=bR6;obtain⟨T,U,r5,W,r2,d3,d2,l1,l2,Y,Au⟩:=bJ2;have n2:=Y.symm;have Me:g<(S.ay g (bu x)).gs.length:=(uC (az HX)).1;have c:=bV2;rw[aA]at c;have u:=ag c;clear X c RN)|(go_at_call 138;refine(uh (S:=S.ay g {bu x with call:=S.av}) u.out.aI o.ch).mono ?_;rintro e wM ⟨y,rfl⟩;rw[show cZ (S.ay g {bu x with call:=S.av}) o.ch=b from H.out]at y;subst y)|(go_at_call 141;refine(sC (S:=S.ay g {bu x with call:=S.av}) u.out.aI dj z A a r (.inr ⟨a,N,ii,sX,O⟩) J).mono ?_;rintro e wK ⟨rfl,Z⟩));go_end0;exact⟨ii,Z⟩
theorem Qv(hk:o.ai=9)(b:Bool)(c:cZ S o.ch=b)(p:∀v∈S.list,0<=v/\v<=65535)(r:0<=S.drawn/\S.drawn<=100000)(S':Wd)(d:gM (S.ay g {bu x with call:=S.av}) g o=S')(f:o.cases=[]):gt 89 #[bR F,I g] w (ee (To af F m w S')):=by
 obtain⟨M,c3,i⟩:=bL0;obtain⟨N,O,j⟩:=mE R hx;rw[j]at i;have Q:=bM5;have T:=bU6;have U:=bO9;obtain⟨s,k⟩:=bN9;rw[<-k]at i;have W:decide ((s:Int)<=x.at_)=false:=ci8
 have t:=bU9;have Y:(o.ai==1)=false:=cj1
 have Z:(o.ai==7)=false:=cj1
 have TI:(o.ai==8)=false:=cj1
 have jO:(o.ai==2)=false:=cj1
 have sk:(o.ai==3)=false:=cj1
 have Eu:(o.ai==4)=false:=cj1
 have Qs:(o.ai==5)=false:=cj1
 have Qt:(o.ai==6)=false:=cj1
 have oz:(o.ai==9)=true:=cj1
 have xW:=ag R.eS;have u:=bM3;obtain⟨HX,y,z,A⟩:=ia hx ho c d;have B:=ag f;have Bg:=ag R;clear R hx ho hk c d j k t f;unfold bR;go_enter func89,ntmps89;go_wp2_with fail
 go_quiet (fail);go_wp2_with (first|(go_at_call 92;refine(Uq u.out.aI g HX y dj).mono ?_;rintro e w1 ⟨⟨cv,rfl,jB⟩,A1⟩;obtain⟨ca,cc,rfl⟩:=bV0;have C:=bV1;clear A1 jB)|(go_at_call 84;refine(sB C.out.aI HX).mono ?_;rintro e wN ⟨rfl,mN,X⟩;have RN:=bP5;obtain⟨q0,q1,q2,q3,q4,q5⟩:=bR6;obtain⟨E,G,r5,H,r2,d3,d2,l1,l2,J,Au⟩:=bJ2;have n2:=J.symm;have Me:g<(S.ay g (bu x)).gs.length:=(uC (az HX)).1;have a:=bV2;rw[aA]at a;have l:=ag a;clear X a RN)|(go_at_call 138;refine(uh (S:=S.ay g {bu x with call:=S.av}) l.out.aI o.ch).mono ?_;rintro e wM ⟨n,rfl⟩;rw[show cZ (S.ay g {bu x with call:=S.av}) o.ch=b from z.out]at n;subst n)|(go_at_call 141;refine(sC (S:=S.ay g {bu x with call:=S.av}) l.out.aI dj p r ca cc (.inl B) A).mono ?_;rintro e wK ⟨rfl,K⟩));go_end0;exact⟨ii,K⟩
end
end
theorem Tryz.Uc:(prog.info? 44).map (λi=>(i.zero,i.size,i.bytes))=some (some (.agg #[I 0,I 0,I 0,B false,I 0]),5,40):=kX
theorem ag3:prog.underlying 69=some (.slice 44):=kX
def oY(l:List Ex):List nP:=(l.filter λm=>m.g==1).map (·.res)
def Af:List nP->bi
 | []=>[]
 |r::l=>ru r++Af l
theorem Cr:∀(l:List nP) (o:nP),Af (l++[o])=Af l++ru o
 | [],o=>by simp[Af]
 |a::l,o=>by rw[sY];unfold Af;rw[Cr l o,al2]
theorem bp5(l:List Ex)(m:Ex):oY (l++[m])=if m.g=1 then oY l++[m.res]else oY l:=by
 unfold oY;grind
theorem Ud(l:List Ex):(oY l).length<=l:=by
 grind [oY]
theorem QX(z A C D E F G H J K L:Value)(l:List Ex)(n:Nat)(hn:n=l)(RH:n<=900000)(M:am)(S:Nat)(w:World)(hS:gC w M n (bT ib 0 l))(p:(#[z,A,C,D,E,F,G,H,J,K,L]:dl).all (·.oneCell')):gt 21 #[.agg #[z,A,C,D,E,F,G,H,J,K,L,(M,n,S)],I 1] w λe w'=>∃a c,e=Value.slice a (oY l).length c/\gC w' a (oY l).length (Af (oY l))/\Below w w w':=by
 obtain⟨i0,hi,fV,jC,gG⟩:=AC Tryz.Uc;have HN:=ag hn;have HS:=ag hS;clear hS hn;go_enter func21,ntmps21;go_wp2
 have h0:Hid (0=(oY (l.take 0)).length/\(w.alloc (.cells #[z,A,C,D,E,F,G,H,J,K,L,(M,n,S)] 41)).ownsRow w 44 5 () 0 (Af (oY (l.take 0)))/\Below w w (w.alloc (.cells #[z,A,C,D,E,F,G,H,J,K,L,(M,n,S)] 41))):=
  ⟨ii,ai9 _ _ _ _,(fp).alloc cG _⟩
 go_loopw [5,11] (λt i wr=>∃(j:Nat) (a:am) (k c:Nat),t=(a,k,c)/\i=.int .i64 j/\j<=n/\Hid (k=(oY (l.take j)).length/\wr.ownsRow w 44 5 (a,k,c) k (Af (oY (l.take j)))/\Below w w wr)) (λt i _=>n-(intOf i).toNat)
 case atStart=>exact⟨0,none,0,0,ii,ii,oX,h0⟩
 clear h0;obtain⟨j,a,k,c,rfl,rfl,hj,r⟩:=hrel;by_cases dD:j<n
 .obtain⟨b,off,rfl,hc⟩:=HS.out oX;obtain⟨m,T⟩:∃m,l[j]?=some m:=⟨_,fv cn4⟩;have HM:=ag T;have HC:Hid (∀q v,(#[I m.g,I m.op,I m.call,I m.bJ,I m.lQ,I m.bF,I m.fire,I m.re,I m.res.aJ,I m.res.case,I m.res.v,B m.res.ok,I m.res.n]:dl)[q]?=some v->wr.cell? ⟨b,off+j*13+q,none⟩=some v):=λq v x=>by have Xc:q<13:=(dh x).1;have:=hc (j*13+q) v (by rw[fq (f:=ib) (k:=13) (λ_ _=>rfl) l 0 j q m T Xc];simpa[ib,ru]using x);rw[<-aj2]at this;exact cw r.out.2.2 cG _ _ this
  have hk:k<=900000:=by grind [Hid.out,Ud]
  have qq:w.heap.size<=wr.heap.size:=r.out.2.2.size;clear T hc;go_upto_region 4 with fail
  repeat(fail_if_success (refine wpList_load_mid ii 46 (.tmp 13) ii b (off+j*13) ii #[I m.g,I m.op,I m.call,I m.bJ,I m.lQ,I m.bF,I m.fire,I m.re,I m.res.aJ,I m.res.case,I m.res.v,B m.res.ok,I m.res.n] ?_ ?_ ?_ ?_));go_step
  refine wpList_load_mid ii 46 (.tmp 13) ii b (off+j*13) ii #[I m.g,I m.op,I m.call,I m.bJ,I m.lQ,I m.bF,I m.fire,I m.re,I m.res.aJ,I m.res.case,I m.res.v,B m.res.ok,I m.res.n] HC bu5.1 bu5.2 ?_;repeat(fail_if_success (refine df ii 46 (.tmp 7) (.tmp 14) ii wr ii #[I m.g,I m.op,I m.call,I m.bJ,I m.lQ,I m.bF,I m.fire,I m.re,I m.res.aJ,I m.res.case,I m.res.v,B m.res.ok,I m.res.n] ii ii ?_ ?_ ?_ ?_));go_step
  refine df ii 46 (.tmp 7) (.tmp 14) ii wr ii #[I m.g,I m.op,I m.call,I m.bJ,I m.lQ,I m.bF,I m.fire,I m.re,I m.res.aJ,I m.res.case,I m.res.v,B m.res.ok,I m.res.n] ii ii bu5.2 ii cj0 ?_;go_upto_region 5 with fail
  obtain⟨d,y⟩:=dC (wr.alloc (.cells #[I m.g,I m.op,I m.call,I m.bJ,I m.lQ,I m.bF,I m.fire,I m.re,I m.res.aJ,I m.res.case,I m.res.v,B m.res.ok,I m.res.n] 46));obtain⟨N,U⟩:∃b,b=wr.heap.size:=⟨_,ii⟩;rw[<-y,<-U];have W:d.heap[N]?=some (.cells #[I m.g,I m.op,I m.call,I m.bJ,I m.lQ,I m.bF,I m.fire,I m.re,I m.res.aJ,I m.res.case,I m.res.v,B m.res.ok,I m.res.n] 46 (0,0)):=by rw[y,U];exact dP
  have m0:d.cell? N=some (I m.g):=by rw[cr W];rfl
  have O:Hid (d.ownsRow w 44 5 (a,k,c) k (Af (oY (l.take j)))):=by rw[y];exact ou r.out.2.1 ii
  have Q:Hid (Below w.heap.size w d/\w.heap.size<=d.heap.size):=by rw[y];exact⟨r.out.2.2.alloc qq _,ci8⟩
  have X:=ag W;have Y:=ag r.out.1;have Ga:=Q.out.2;clear y U W r HC;have s:oY (l.take (j+1))=if m.g=1 then oY (l.take j)++[m.res]else oY (l.take j):=by rw[ox HM.out];exact bp5 _ _
  by_cases u:m.g=1
  .rw[aF u]at s;have HT:=ag s;rw[u]at m0;clear s u;go_upto_region 6 with fail
   repeat(fail_if_success (refine wpList_load_mid ii 44 (.tmp 20) ii N 8 rfl #[I m.res.aJ,I m.res.case,I m.res.v,B m.res.ok,I m.res.n] ?_ ?_ ?_ ?_));go_step
   refine wpList_load_mid ii 44 (.tmp 20) ii N 8 rfl #[I m.res.aJ,I m.res.case,I m.res.v,B m.res.ok,I m.res.n] (λq v x=>by rw[cr X.out];have a0:q<5:=(dh x).1;rcases(show q=0\/q=1\/q=2\/q=3\/q=4 by omega)with rfl|rfl|rfl|rfl|rfl<;>exact x) bu0.1 bu0.2 ?_;go_wp2_with (at_builtin;go_loud (refine jw (us:=#[I m.res.aJ,I m.res.case,I m.res.v,B m.res.ok,I m.res.n]) (w2:=d) ii (.tmp 19) (.tmp 22) 69 rfl ag3 hi fV jC gG ii dX dX ii ii cj0 (a,k,c) k _ ii O ii oX Ga ?_));intro g cp w3 o jE lN
   have Z:Hid (k+1=(oY (l.take (j+1))).length/\w3.ownsRow w 44 5 (g,k+1,cp) (k+1) (Af (oY (l.take (j+1))))/\Below w w w3):=by
    rw[HT.out];refine⟨by rw[aU7,<-Y.out];rfl,by rw[Cr];exact o,?_⟩;refine(Q.out.1.alloc Ga _).grown jE ci8 (λb hb=>?_);rcases O.out.2 with⟨p,R⟩|⟨g',_,_,p,R,_⟩
    .simp only[as9]at p;rw[p.1]at hb;cases hb
    grind [Value.ownBlock]
   clear o jE lN O Q X Y m0;go_wp2;go_roundw
   case rel=>exact⟨j+1,_,_,_,ii,cj8,oX,Z⟩
   simp[intOf];omega
  rw[aE u]at s;have HT:=ag s;have o:(m.g==1)=false:=by simpa using u
  clear s u;have Z:Hid (k=(oY (l.take (j+1))).length/\d.ownsRow w 44 5 (a,k,c) k (Af (oY (l.take (j+1))))/\Below w w d):=by grind [Hid.out]
  clear O Q X Y;go_wp2;go_roundw
  case rel=>exact⟨j+1,_,_,_,ii,cj8,oX,Z⟩
  simp[intOf];omega
 obtain rfl:j=n:=oX
 go_wp2;go_ret;obtain⟨p,R,d⟩:=r.out;rw[HN.out,aj3]at p R;subst p;exact⟨_,_,ii,gC.tO R,d⟩