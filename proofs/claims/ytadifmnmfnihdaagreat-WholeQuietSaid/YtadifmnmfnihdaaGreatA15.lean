import Derived.Test.YtadifmnmfnihdaaGreatA13
set_option linter.all false
set_option maxRecDepth 100000
set_option maxHeartbeats 40000000
namespace Go.Proofs.YtadifmnmfnihdaaGreat
open Mach
variable{t E S':Wd}{N:ap}{n z p X:Nat}{e O:bI}{sd:fE}{v u f w':World}{D:Mem}{Y:Int}{Z:Bool}{h:ce}
namespace V
section
variable{w w2:Wd}{g s:Nat}{x x':bI}
section
variable(I:Inv w N)(hx:w.gs[g]?=x)(hs:Na w g)(hk:(aP x).ai=9)
include I hx hs hk
theorem bk6(a:x.ae=25)(r:nP)(b:r.aJ=1\/r.aJ=2\/r.aJ=3)(c:cV (aP x) w.au {x with res:=r,lQ:=w.av,fire:=r.case}):Inv (w.ay g {x with res:=r,lQ:=w.av,fire:=r.case,k:=x.aq,ae:=30}) N/\bK w (w.ay g {x with res:=r,lQ:=w.av,fire:=r.case,k:=x.aq,ae:=30}):=by
 obtain⟨d,f,i⟩:=M.am8 (I.loc g x hx) hk a r w.av b c;exact I.ku hx hs d ⟨sX,sX⟩ f i ii
theorem DD(f:x.ae=25):∃E,j3 w g (aP x)=some E/\Inv E N/\bK w E:=by
 have L:=bT4;obtain⟨s1,s2,r⟩:=bT1;have kE:=bT2;obtain⟨i,c,t,v,A,B,C,D,F,o⟩:=bU1;unfold j3;simp only[hx,o,bW,eN,aH6,dF];by_cases m:x.k+1<x.aH.length
 .rw[aF m];grind [M.am7,Inv.ku]
 rw[aE m]
 cases n:(aP x).dG with
 |true=>
  simp only[dt];unfold te;rw[qK (di (x:=x) {x with k:=x.k+1} hx),cY];refine⟨_,ii,?_⟩;exact bk6 I hx hs hk f {aJ:=2,case:= -1} (.inr (.inl rfl)) (.inr (.inl ⟨ii,n,ii⟩))
 |false=>
  simp only[nW,dF];obtain⟨p,q⟩:=M.an0 L hk f n;have d:¬aW x:=uy oX;have G:=L.aN.2 d;have H:=L.tI (.inl hk);have W:=I.jU (x':={x with bA:=List.replicate (aP x).cases.length (-1),k:=0,ae:=28}) hx (ae0 _);refine⟨_,ii,?_,dW hx ii,ii,ii,ii,ii,ii⟩
  exact I.aW6 hx p (λk l s sd _ _ _ _ a c=>aX c (Ca oX sd)) (λs h=>ck1) (λJ s h=>by
    simp only[uA]at h;split at h
    .grind
    cases h) (λj u s sd _ _ _ _ _ _ a b _ _ _=>aX b d) (λh=>cm8) (λh=>cl9)
   (λs h=>ck1) W.1 W.2 ii ii ii I.au ii ii (I.lock.same hx q) ii ii ii (I.st.same hx hs (λh=>aX h d) ii sX sX) (I.jn.same hx (λh=>aX h d) ii ii sX)
theorem zq(q:x.ae=25)(r:Y∈x.aq){kk:Int}(D:kk=2*Y-2\/kk=2*Y-1):Mach.take w g kk 26 27=(w,false)\/∃u,Mach.take w g kk 26 27=(u,true)/\∃E F,eH u g=some E/\Inv E F/\bK w E:=by
 have L:=bT4;obtain⟨v,s2,S⟩:=bT1;have c:=bT2;obtain⟨i,T,G,H,U,W,X,Z,h7,Dn⟩:=oq I hx v c;have d:=KA hk oX r;have A:¬aW x:=uy oX;have f:∀sd,¬eV x sd:=Ca oX;rcases FF I hx (λh=>ck5) f (v.lk Y r) d D 26 27 with h|⟨s,k,l,sd,J,K,j,m,n,o⟩|⟨s,z,sd,O,B,t1,t2,t3,t4,t5,t6,t7,t8,t9,t10,t11,t12,t13,t14⟩
 .exact .inl h
 .right;obtain⟨p,a⟩:=M.an1 L hk q s;refine⟨_,J,w.ay g {x with br:=s,ae:=26},N,?_,I.Pe hx hs K j m n (.inr (.inl rfl)) ii (by rw[o];exact(a _).2 d) A f ii ii ii ii ii ii p a⟩;unfold eH;simp only[mH hx,bW,eN];rw[aE sX]
 right;obtain⟨p,a⟩:=M.an2 L hk q s w.av w.av z (i:Int) ⟨x.k.toNat,oX,H⟩;have C:=t2.Kq (x':={x with br:=s,t:=w.av,lQ:=w.av,bF:=z,fire:=(i:Int),ae:=27}) (b:=O.aR) hx hs t6 t7 t10 t11 t14 t3 t4 t5 t8 (λh=>aX h t9) (λ_=>rfl) (λ_=>t13) (.inr rfl) ii (by rw[t12];exact(a _).2 d) A f ii ii ii ii ii ii p a w.av g;refine⟨_,t1,_,iA N s,?_,C.1,(show bK w {w with ef:=B}from⟨ii,ii,ii,ii,ii,ii⟩).trans C.2⟩;have Q:((({w with ef:=B}:Wd).ay z {O with lQ:=w.av,bF:=g,fire:=sd.case}).ay g {x with br:=s,t:=w.av,lQ:=w.av,bF:=z,ae:=27}).gs[g]?=some {x with br:=s,t:=w.av,lQ:=w.av,bF:=z,ae:=27}:=cu7
 have R:dU {x with br:=(s:Int),t:=w.av,lQ:=w.av,bF:=(z:Int),ae:=27}=(i:Int):=G;unfold eH;simp only[Q,R,bW,eN,dt];rw[cY]
theorem PG(n:x.ae=25):∃E a,uE w g (aP x)=some E/\Inv E a/\bK w E:=by
 have L:=bT4;obtain⟨s1,s2,Y⟩:=bT1;have kE:=bT2;obtain⟨i,c,M,Z,Q,h4,o,p,u,Dn⟩:=bU1;obtain⟨b,A,cR⟩:=Fs I ⟨o,p⟩;obtain⟨hm,r,B,C⟩:=gz I ⟨o,p⟩
 have m:∀(W:Wd),Inv W N->bK w W->W.gs=w.gs->W.ax=w.ax->∀j:nP,(j.aJ=1\/j.aJ=3/\c.cF=true)->∃E a,te W g {j with case:=i}=some E/\Inv E a/\bK w E:=by
  intro W D q G H j R;have k:W.gs[g]?=x:=by rw[G];exact hx
  have t:Na W g:=by unfold Na;rw[H];exact hs
  unfold te;rw[qK k];refine⟨_,N,ii,?_⟩
  have F:=bk6 D k t hk n {j with case:=i} ci9 (.inl ⟨ci9,ii,sX,c,cw8,o,by rw[q.au];exact p,λh=>by
   rcases R with J|J
   .simp only at h;omega
   exact J.2⟩)
  exact⟨F.1,q.trans F.2⟩
 have K:∀(W:Wd),Inv W N->bK w W->W.gs=w.gs->W.ax=w.ax->∃E a,j3 W g (aP x)=some E/\Inv E a/\bK w E:=by intro W D q G H;grind [DD,Na,bK.trans]
 unfold uE;simp only[hx,M,Q,bW,eN]
 cases S:c.cF with
 |true=>
  simp only[dt];unfold j4;simp only[A,bW,eN]
  cases b with
  |true=>
   simp only[dt,eN,nW,dF];exact m w I (bK.refl w) ii ii {aJ:=3} (.inr ⟨ii,S⟩)
  |false=>
   simp only[nW,dF];rcases zq I hx hs hk n u (kk:=2*c.ch-2) (.inl rfl)with l|⟨T,l,E,a,t1,t2,t3⟩
   .simp only[l,eN,nW,dF,aH8,B,bW];obtain⟨d,f⟩:=I.Pf (c.ch-1).toNat (Ring.C2 C c.v)
    cases U:(r.put c.v).2 with
    |true=>
     simp only[dt,eN,nW,dF];exact m _ d f ii ii {aJ:=1,ok:=true} (.inl rfl)
    |false=>
     simp only[nW,dF,eN];exact K _ d f ii ii
   grind
 |false=>
  simp only[nW,dF];unfold j5;rcases zq I hx hs hk n u (kk:=2*c.ch-1) (.inr rfl)with l|⟨T,l,E,a,t1,t2,t3⟩
  .simp only[l,eN,nW,dF,getRing,B,bW];obtain⟨d,f⟩:=I.Pf (c.ch-1).toNat (Ring.Vj C)
   cases U:r.get.2.2 with
   |true=>
    simp only[dt,eN,nW,dF];exact m _ d f ii ii {aJ:=1,v:=r.get.2.1,ok:=true} (.inl rfl)
   |false=>
    have X:idx (w.dZ (c.ch-1).toNat r.get.1).aO (c.ch-1)=b:=A;simp only[nW,dF,X,eN]
    cases b with
    |true=>
     simp only[dt,eN,nW,dF];exact m _ d f ii ii {aJ:=1} (.inl rfl)
    |false=>
     simp only[nW,dF,eN];exact K _ d f ii ii
  grind
theorem Mm(a:x.ae=26):∃E d,(rD w g 25 27).bind (eH · g)=some E/\Inv E d/\bK w E:=by
 have L:=bT4;obtain⟨s1,s2,q⟩:=bT1;have kE:=bT2;obtain⟨i,c,n,o,r,u,v,A,B,C⟩:=bU1;have f:¬aW x:=uy oX;have j:∀sd,¬eV x sd:=Ca oX;obtain⟨m1,m2,m3⟩:=M.am9 L hk a;have F:=bU5;rcases Kt I hx (.inr (.inl a)) f j 25 27 oX ⟨F.1,m3⟩with⟨E,d,t1,t2,t3,t4⟩|⟨s,z,k,l,sd,O,t1,t2,t3,t4,t5,t6,t7,t8,t9,t10,t11,t12,t13⟩
 .refine⟨E,d,?_,t2,t3⟩;rw[t1];have m:E.gs[g]?=some {x with br:= -1,ae:=25}:=by rw[t4];exact di _ hx
  simp only[eN];unfold eH;grind
 obtain⟨m2,m3⟩:=M.an3 L hk a w.av w.av z (i:Int) ⟨x.k.toNat,oX,o⟩;refine⟨_,N,?_,I.Kq (x':={x with t:=w.av,lQ:=w.av,bF:=z,fire:=(i:Int),ae:=27}) (b:=true) hx hs t6 t7 t10 t11 t13 t3 t4 t5 t8 (λ_=>rfl) (λh=>aX t9 h) (λh=>aX t9 h) (.inr rfl) t2 ((m3 _).2 t12) f j ii ii ii ii ii ii m2 m3 w.av g⟩;rw[t1];have m:((w.ay z {O with lQ:=w.av,bF:=g,fire:=sd.case,aR:=true}).ay g {x with t:=w.av,lQ:=w.av,bF:=z,ae:=27}).gs[g]?=some {x with t:=w.av,lQ:=w.av,bF:=z,ae:=27}:=cu7
 have p:dU {x with t:=w.av,lQ:=w.av,bF:=(z:Int),ae:=27}=(i:Int):=n;simp only[eN];unfold eH;simp only[m,p,bW,eN,dt];rw[cY]
theorem DE(d:x.ae=27):∃E t,jJ w g (aP x)=some E/\Inv E t/\bK w E:=by
 have L:=bT4;obtain⟨s1,s2,K⟩:=bT1;have kE:=bT2;obtain⟨i,c,u,Q,A,h4,o,p,R,S⟩:=bU1;have f:¬aW x:=uy oX;obtain⟨s,ON⟩:=pz (L.br (.inl (.inr d)));obtain⟨z,sd,O,b,d1,d2,d3,d4,d5,d6,F⟩:=I.Pg hx hs (.inr d) f (Ca oX) ON;have B:nat? x.br=s:=cr9
 have C:x.fire=(i:Int):=by obtain⟨_,⟨j,T,U⟩,_⟩:=L.hand d;grind
 have q:∀v,cV (aP x) w.au.length {x with res:={aJ:=1,case:=i,ok:=true,v:=v}}:=λv=> .inl ⟨.inl rfl,C,sX,c,cw8,o,p,λh=>cj5⟩
 have X:=I.sj hx;unfold jJ;simp only[hx,u,B,A,d1,bW,eN]
 cases Y:c.cF with
 |true=>
  simp only[dt,d2,eN];obtain⟨l,m,n⟩:=M.c27 L hk d {aJ:=1,case:=i,ok:=true,v:=0} rfl (q 0);have F:=F _ (.inl rfl) {sd with v:=c.v,done:=true} ⟨ii,ii,ii,ii,ii⟩ {x with res:={aJ:=1,case:=i,ok:=true,v:=0},br:= -1,k:=x.aq.length,ae:=30} (.inr (.inr ⟨ii,ii⟩)) (λh=>f (l.wt.1 h)) ii ii ii ii ii ii m n;rw[mZ (w:=({w with ef:=b}:Wd).cJ s {sd with v:=c.v}) (z:=z) (y:=O) (sd:={sd with v:=c.v}) hx (qN d2) d3 d5 d4 oX];simp only[eN];rw[qK (x:={x with OK:=x.OK++[(z:Int)],br:= -1}) (di (x:=x) _ cn3)];refine⟨_,iA N s,ii,?_⟩;rw[cY];have a:((({w with ef:=b}:Wd).cJ s {sd with v:=c.v}).cJ s {sd with v:=c.v,done:=true})=({w with ef:=b}:Wd).cJ s {sd with v:=c.v,done:=true}:=by unfold Wd.cJ;simp only[my]
  rw[a];exact F
 |false=>
  simp only[nW,dF];obtain⟨D,r,G,ok⟩:=gz I ⟨o,p⟩
  have H:∃w2 v,ik ({w with ef:=b}:Wd) c.ch s=some (w2,v)/\(w2=({w with ef:=b}:Wd)\/∃c r,r.Ok/\w2=({w with ef:=b}:Wd).dZ c r):=by
   have Ht:cZ ({w with ef:=b}:Wd) c.ch=true:=D;have mC:kq ({w with ef:=b}:Wd) c.ch=some ((c.ch-1).toNat,r):=G;exact ce4
  obtain⟨W,v,J,a⟩:=H;obtain⟨l,m,n⟩:=M.c27 L hk d {aJ:=1,case:=i,ok:=true,v:=v} rfl (q v);have F:=F W a {sd with done:=true} ⟨ii,ii,ii,ii,ii⟩ {x with res:={aJ:=1,case:=i,ok:=true,v:=v},br:= -1,k:=x.aq.length,ae:=30} (.inr (.inr ⟨ii,ii⟩)) (λh=>f (l.wt.1 h)) ii ii ii ii ii ii m n;have zd:W.gs=w.gs/\W.ah=w.ah:=by rcases a with rfl|⟨c,r,_,rfl⟩<;>exact⟨ii,ii⟩
  simp only[J,eN];rw[mZ (w:=W) (z:=z) (y:=O) (sd:=sd) (x:=x) (by rw[zd.1];exact hx) (by rw[zd.2];exact d2) d3 (by rw[zd.1];exact d5) d4 oX];simp only[eN];rw[qK (x:={x with OK:=x.OK++[(z:Int)],br:= -1}) (di (x:=x) _ cw4)];refine⟨_,iA N s,ii,?_⟩;rw[cY];exact F
end
end
section
variable{w:Wd}{g s:Nat}{x y:bI}{o:cu}
theorem Cj{p:Int}(h:bG Y p)(a:1<=Y/\Y<=5)(b:0<=p/\p<=34):p<=20:=by
 by_cases c:20<p
 .exfalso;have:p=21\/p=22\/p=23\/p=24\/p=25\/p=26\/p=27\/p=28\/p=29\/p=30\/p=31\/p=32\/p=33\/p=34:=by omega
  rcases this with rfl|rfl|rfl|rfl|rfl|rfl|rfl|rfl|rfl|rfl|rfl|rfl|rfl|rfl<;>simp[bG]at h<;>omega
 omega
section
variable(I:Inv w N)(hx:w.gs[g]?=x)(hs:Na w g)
include I hx hs
theorem tv(a:2<=(aP x).ai/\(aP x).ai<=5)(d:x.ae=6):∃t,Gt w g 9=some t/\Inv t N/\bK w t:=by
 obtain⟨m1,m2,m3⟩:=M.s6 (I.loc g x hx) a d;obtain⟨b,c⟩:=bU5;grind [Gt,fL]
theorem DO(hk:(aP x).ai=2\/(aP x).ai=4)(F:x.ae≠0/\x.ae≠18/\x.ae≠19/\x.ae≠20):∃t i,jq w g=(t,true)/\Inv t i/\bK w t:=by
 have L:=bT4;obtain⟨H,K⟩:=pj I hx F.1;have pM:=L.kp F.1;have J:=L.pl;have f:∀{a:Option Wd},(∃t,a=some t/\Inv t N/\bK w t)->∃t i,yes a=some (t,true)/\Inv t i/\bK w t:=λ⟨t,a,b,c⟩=>⟨t,N,nN a,b,c⟩
 have r:∀{a:Option Wd},(∃t i,a=some t/\Inv t i/\bK w t)->∃t i,yes a=some (t,true)/\Inv t i/\bK w t:=λ⟨t,i,a,b,c⟩=>⟨t,i,nN a,b,c⟩
 have u:x.ae=10\/x.ae=11\/x.ae=14->(aP x).ai=2:=λh=>by
  exact cb5
 have G:x.ae=1\/x.ae=2->(aP x).ai=4:=λh=>by grind [bG]
 unfold jq;simp only[H,hx,bW,eN];rw[aE oX];by_cases k:x.ae=1
 .rw[aF k];exact f (Df I hx hs (G (.inl k)) k)
 rw[aE k];by_cases h:x.ae=2
 .rw[aF h];exact f (AR I hx hs (G (.inr h)) h)
 rw[aE h];by_cases v:x.ae=5
 .rw[aF v];exact f (AS I hx hs hk v)
 rw[aE v];by_cases l:x.ae=6
 .rw[aF l];rcases Cc I hx hs oX l (.inl rfl)with d|⟨t,i,d,b,c⟩
  .simp only[d,eN,nW,dF];exact f (tv I hx hs oX l)
  grind
 rw[aE l];by_cases A:x.ae=7
 .rw[aF A];exact r (FG I hx hs oX A)
 rw[aE A];by_cases B:x.ae=8
 .rw[aF B];exact r (Dq I hx hs hk B _)
 rw[aE B];by_cases D:x.ae=9
 .rw[aF D];exact f (qL I hx hs hk D)
 rw[aE D];by_cases m:x.ae=10
 .have j:=u (.inl m);rw[aF m];exact f (FJ I hx hs (.inl j) m _ ii ii ii ii (by rw[j];rfl))
 rw[aE m];by_cases p:x.ae=11
 .have j:=u (.inr (.inl p));rw[aF p];exact r (Cd I hx hs (.inl j) p (by rw[aF j]))
 rw[aE p];by_cases q:x.ae=14
 .rw[aF q];exact f (Dk I hx hs (u (.inr (.inr q))) q)
 rw[aE q];refine ud I hx hs oX ?_;have M:x.ae≠3:=λd=>by rw[d]at pM;rcases hk with hk|hk<;>rw[hk]at pM<;>simp[bG]at pM
 have Q:=Cj pM oX J;omega
theorem zB(m:(aP x).ai=3\/(aP x).ai=5)(p:x.ae=5\/x.ae=6\/x.ae=7\/x.ae=8\/x.ae=9):∃t f,iE w g (aP x)=some t/\Inv t f/\bK w t:=by
 have i:∀{a:Option Wd},(∃t,a=some t/\Inv t N/\bK w t)->∃t f,a=some t/\Inv t f/\bK w t:=λ⟨t,a,b,c⟩=>⟨t,N,a,b,c⟩
 unfold iE;simp only[hx,bW,eN];by_cases j:x.ae=5
 .rw[aF j];exact i (AT I hx hs m j)
 rw[aE j];by_cases k:x.ae=6
 .rw[aF k];rcases Cc I hx hs oX k (.inr rfl)with d|⟨t,f,d,b,c⟩
  .simp only[d,eN,nW,dF];grind [tv]
  grind
 rw[aE k];by_cases d:x.ae=7
 .rw[aF d];exact FG I hx hs oX d
 rw[aE d];by_cases l:x.ae=8
 .rw[aF l];exact Dr I hx hs m l
 rw[aE l];grind [qM]
theorem DP(hk:(aP x).ai=3\/(aP x).ai=5)(m:x.ae≠0/\x.ae≠18/\x.ae≠19/\x.ae≠20):∃t d,jr w g=(t,true)/\Inv t d/\bK w t:=by
 have L:=bT4;obtain⟨r,D⟩:=pj I hx m.1;have pM:=L.kp m.1;have u:=L.pl;have F:=Cj pM oX u;have j:∀{a:Option Wd},(∃t,a=some t/\Inv t N/\bK w t)->∃t d,yes a=some (t,true)/\Inv t d/\bK w t:=λ⟨t,a,b,c⟩=>⟨t,N,nN a,b,c⟩
 have p:∀{a:Option Wd},(∃t d,a=some t/\Inv t d/\bK w t)->∃t d,yes a=some (t,true)/\Inv t d/\bK w t:=λ⟨t,d,a,b,c⟩=>⟨t,d,nN a,b,c⟩
 have v:x.ae=10\/x.ae=11\/x.ae=14->(aP x).ai=3:=λh=>by
  exact cb5
 have A:x.ae=1\/x.ae=2\/x.ae=3->(aP x).ai=5:=λh=>by grind [bG]
 unfold jr;simp only[r,hx,bW,eN];rw[aE oX];by_cases hc:x.ae=4\/x.ae=12\/x.ae=13\/x.ae=15\/x.ae=16\/x.ae=17
 .rw[aF cw0];grind [ud]
 rw[aE cw0];by_cases f:x.ae=1\/x.ae=2\/x.ae=3
 .rw[aF f];exact j (Dh I hx hs (A f) f)
 rw[aE f];by_cases k:x.ae=5\/x.ae=6\/x.ae=7\/x.ae=8\/x.ae=9
 .rw[aF k];exact p (zB I hx hs hk k)
 rw[aE k];have q:x.ae=10\/x.ae=11\/x.ae=14:=oX
 have i:=v q;rw[aF q];refine p ?_;by_cases B:x.ae=14
 .obtain⟨t,a,b,c⟩:=Dl I hx hs i B (aP x).ch;exact⟨t,N,a,b,c⟩
 unfold j1;simp only[hx,bW,eN];by_cases l:x.ae=10
 .rw[aF l];obtain⟨t,a,b,c⟩:=FJ I hx hs (.inr i) l {cK:=true,g:=g,ch:=(aP x).ch,case:= -1} rfl ii ii ii (by rw[i];rfl);exact⟨t,N,a,b,c⟩
 rw[aE l,aF oX];exact Cd I hx hs (.inr i) oX (by rw[aE oX])
theorem zw(i:(aP x).ai=9)(p:x.ae≠0/\x.ae≠18/\x.ae≠19/\x.ae≠20):∃t k,aS7 w g=(t,true)/\Inv t k/\bK w t:=by
 have L:=bT4;obtain⟨q,u⟩:=pj I hx p.1;have m:=L.kp p.1;have v:=L.pl;have j:∀{a:Option Wd},(∃t,a=some t/\Inv t N/\bK w t)->∃t k,yes a=some (t,true)/\Inv t k/\bK w t:=λ⟨t,a,b,c⟩=>⟨t,N,nN a,b,c⟩
 have l:∀{a:Option Wd},(∃t k,a=some t/\Inv t k/\bK w t)->∃t k,yes a=some (t,true)/\Inv t k/\bK w t:=λ⟨t,k,a,b,c⟩=>⟨t,k,nN a,b,c⟩
 have r:x.ae=13\/x.ae=17\/x.ae=24\/x.ae=25\/x.ae=26\/x.ae=27\/x.ae=28\/x.ae=29\/x.ae=30\/x.ae=14\/x.ae=31\/x.ae=32\/x.ae=33\/x.ae=34:=by
  rw[i]at m;by_cases A:13<=x.ae
  .by_cases d:x.ae=15\/x.ae=16\/x.ae=21\/x.ae=22\/x.ae=23
   .grind [bG]
   omega
  exfalso;have:x.ae=1\/x.ae=2\/x.ae=3\/x.ae=4\/x.ae=5\/x.ae=6\/x.ae=7\/x.ae=8\/x.ae=9\/x.ae=10\/x.ae=11\/x.ae=12:=oX
  rcases this with h|h|h|h|h|h|h|h|h|h|h|h<;>rw[h]at m<;>simp[bG]at m
 unfold aS7;simp only[q,hx,bW,eN];rw[aE oX];rcases r with h|h|h|h|h|h|h|h|h|h|h|h|h|h
 .rw[aF oX];obtain⟨b,c⟩:=Fy I hx hs oX h;refine⟨_,N,?_,b,c⟩;unfold gH;grind
 .rw[aF oX];obtain⟨z,t,d,a,b,c⟩:=Cb I hx hs (.inr i) h;refine⟨t,N,?_,b,c⟩;unfold gH;grind
 all_goals rw[aE oX]
 .rw[aF h];exact j (aW2 I hx hs i 25 (.inl ⟨h,ii⟩))
 all_goals rw[aE oX]
 .rw[aF h];exact l (PG I hx hs i h)
 all_goals rw[aE oX]
 .rw[aF h];exact l (Mm I hx hs i h)
 all_goals rw[aE oX]
 .rw[aF h];exact l (DE I hx hs i h)
 all_goals rw[aE oX]
 .rw[aF h];exact j (Bc I hx hs i h)
 all_goals rw[aE oX]
 .rw[aF h];exact l (bf5 I hx hs i h)
 all_goals rw[aE oX]
 .rw[aF h];exact j (Du I hx hs i h)
 all_goals rw[aE oX]
 .rw[aF h];exact j (LY I hx hs i h)
 all_goals rw[aE oX]
 .rw[aF h];exact j (aW2 I hx hs i 32 (.inr ⟨h,ii⟩))
 all_goals rw[aE oX]
 .rw[aF h];exact l (PE I hx hs i h)
 all_goals rw[aE oX]
 .rw[aF h];obtain⟨B,f,d,⟨rfl,b,c⟩|⟨rfl,t,D,b,c⟩⟩:=Dw I hx hs i h
  .grind
  simp_all
 rw[aE oX,aF h];exact j (DC I hx hs i h)
end
end
end V
open Go.RowKit Go.Proofs.Tryz
section
variable{af g:Nat}{F:Fx}{w w0:World}{m m0:Mem}{S:Wd}{L:List (Nat×Obj)}
theorem bz1(A:At af F m0 w0 m w S)(g:Int):gt 137 #[F.dB,g] w λe w'=>(∃b,e=Value.bool b)/\At af F m0 w0 m w' {S with ax:=(Av S.ax g).1}:=
 (PZ A.bj g).mono λe w' ⟨a,c⟩=>⟨⟨_,a⟩,A.cont c⟩
theorem MH(R:bz af F w m S)(g:Nat)(x:bI)(hx:S.gs[g]?=x)(k:(x.ops:Int)<=x.at_):gt 89 #[bR F,I g] w (ee λw'=>To af F m w {S with ax:=(Av S.ax g).1} w'):=by
 obtain⟨l,c3,a⟩:=bL0;have c4:=R.nJ;obtain⟨n,o,c⟩:=mE R hx;rw[c]at a;have p:=bM5;have q:=bU6;have r:=bO9;obtain⟨f,d⟩:=bN9;rw[<-d]at a;have s:decide ((f:Int)<=x.at_)=true:=ci8
 have i:=bM3;clear R hx c d;unfold bR;go_enter func89,ntmps89;go_wp2_with fail
 go_quiet (fail);go_wp2_with (go_at_call 137;refine(bz1 i.out.aI g).mono ?_;rintro e t ⟨⟨b,rfl⟩,A1⟩;have j:=bO7;clear A1);refine UV (ad8 ii _ _ _) ii ?_;exact⟨ii,_,j⟩
theorem Jq(R:bz af F w m S)(g:Nat)(x:bI)(hx:S.gs[g]?=x)(y:0<=x.at_)(n:1<=(dH S g).ai/\(dH S g).ai<=9\/(x.ops:Int)<=x.at_)(q:∀v∈S.list,0<=v/\v<=65535)(r:0<=S.drawn/\S.drawn<=100000)(S':Wd)(a:jT S g=S'):gt 89 #[F.aQ,I g] w (ee (To af F m w S')):=by
 unfold jT at a;simp only[bW,cI,hx,oZ,exists_eq_left']at a;by_cases i:(x.ops.length:Int)<=x.at_
 .rw[aF i]at a
  cases a;exact MH R g x hx i
 rw[aE i]at a;simp only[cI]at a;obtain⟨o,u,a⟩:=a;obtain⟨ho,z,dj⟩:=nB u;rw[ho]at n;have ui:0<=x.at_/\x.at_<x.ops.length:=oX
 have n:1<=o.ai/\o.ai<=9:=oX
 have j:cZ S o.ch=true\/cZ S o.ch=false:=by cases cZ S o.ch<;>simp
 have b:∀p S',Gt (S.ay g {bu x with call:=S.av}) g p=some S'->S'=S.ay g {bu x with call:=S.av,ae:=p}:=by
  intro p S' h;obtain⟨A,s,rfl⟩:=Nb h;rw[az hx]at s
  cases s;rw[aA]
 by_cases k:o.ai=1\/o.ai=7\/o.ai=8
 .rw[aF k]at a;have e:=b _ _ a;rcases k with h|h|h
  .exact cg3
  .exact cg3
  exact cg3
 rw[aE k]at a;by_cases c:o.ai=2\/o.ai=3
 .rw[aF c]at a;rcases j with hk|hk
  .rw[hk,aF rfl]at a;have e:=b _ _ a;rcases c with h|h
   .exact ce6
   exact ce6
  rw[hk,aE sX]at a;rcases c with h|h
  .exact KJ R g x hx ui o ho dj hk S' a (by simp[h])
  exact KJ R g x hx ui o ho dj hk S' a (by simp[h])
 rw[aE c]at a;by_cases d:o.ai=4\/o.ai=5
 .rw[aF d]at a;rcases j with hk|hk
  .rw[hk,aF rfl]at a;have e:=b _ _ a;rcases d with h|h
   .exact ce6
   exact ce6
  rw[hk,aE sX]at a;rcases d with h|h
  .exact DX R g x hx ui o ho dj hk S' a (by simp[h])
  exact DX R g x hx ui o ho dj hk S' a (by simp[h])
 rw[aE d]at a;by_cases f:o.ai=6
 .rw[aF f]at a;rcases j with hk|hk
  .rw[hk,aF rfl]at a;exact pw R g x hx ui o ho dj hk S' (b _ _ a) (by simp[f])
  rw[hk,aE sX]at a;exact DX R g x hx ui o ho dj hk S' a (by simp[f])
 rw[aE f]at a;have l:o.ai=9:=oX
 rw[aF l]at a;by_cases t:o.cases=[]
 .exact Qv R g x hx ui o ho dj l _ ii q r S' a t
 exact Qu R g x hx ui o ho dj l _ ii q r S' a t
structure zP(S:Wd)(g:Nat):Prop where
 aq:S.aq=S.au.length
 aO:S.aO=S.au.length
 list:∀v∈S.list,0<=v/\v<=65535
 drawn:0<=S.drawn/\S.drawn<=100000
 begin:∀x,S.gs[g]?=some x->x.ae=0->0<=x.at_/\(1<=(dH S g).ai/\(dH S g).ai<=9\/(x.ops:Int)<=x.at_)
 do_:∀x,S.gs[g]?=some x->x.ae=20->(dH S g).ai=1\/(dH S g).ai=7\/(dH S g).ai=8
section
variable(T:To af F m0 w0 S w)(aG:zP S g)(hx:S.gs[g]?=e)
include T aG hx
theorem Qw(b:e.ae=0){S':Wd}(c:jT S g=S'):gt 89 #[F.aQ,I g] w (ee (To af F m0 w0 S')):=by
 obtain⟨m,A⟩:=T;exact(Jq A.bj g e hx (aG.begin e hx b).1 (aG.begin e hx b).2 aG.list aG.drawn S' c).mono λa w' ⟨d,D,f⟩=>⟨d,D,A.cont f⟩
theorem af3(b:e.ae=20){S':Wd}(c:doS S g=S'):gt 90 #[F.aQ,I g] w (ee (To af F m0 w0 S')):=by
 obtain⟨m,A⟩:=T;exact(TJ A.bj aG.aq aG.aO g (aG.do_ e hx b) S' c).mono λa w' ⟨d,D,f⟩=>⟨d,D,A.cont f⟩
end
theorem MI(T:To af F m0 w0 S w){S':Wd}(a:mL S g=S'):gt 91 #[F.aQ,I g] w (ee (To af F m0 w0 S')):=by
 obtain⟨m,A⟩:=T;exact(FN A.bj g S' a).mono λe w' ⟨b,D,c⟩=>⟨b,D,A.cont c⟩
section
variable(R:bz af F w m S)
include R
theorem TQ(b:zP S g)(x:bI)(hx:S.gs[g]?=x)(a:x.ae=0)(S':Wd)(c:jT S g=S'):gt 60 #[bR F,I g] w (oV (To af F m w S')):=by
 have o:=um hx;have c3:=R.eu;have d:=bM6;rw[a]at d;have p:=bU6;have q:=bO9;obtain⟨f,i,j,k,l⟩:=jW R.to hx a c b;clear R hx a c b;unfold bR;go_enter func60,ntmps60;go_wp2_with (go_at_call 89;refine(Qw f l i j k).mono ?_;rintro e r ⟨rfl,T⟩;have n:=ag T;clear T);go_ret;exact⟨ii,n⟩
theorem Qx(b:zP S g)(x:bI)(hx:S.gs[g]?=x)(a:x.ae=20)(S':Wd)(c:doS S g=S'):gt 60 #[bR F,I g] w (oV (To af F m w S')):=by
 have o:=um hx;have c3:=R.eu;have d:=bM6;rw[a]at d;have p:=bU6;have q:=bO9;obtain⟨f,i,j,k,l⟩:=jW R.to hx a c b;clear R hx a c b;unfold bR;go_enter func60,ntmps60;go_wp2_with (go_at_call 90;refine(af3 f l i j k).mono ?_;rintro e r ⟨rfl,T⟩;have n:=ag T;clear T);go_ret;exact⟨ii,n⟩
theorem Qy(x:bI)(hx:S.gs[g]?=x)(a:x.ae=18)(S':Wd)(b:mL S g=S'):gt 60 #[bR F,I g] w (oV (To af F m w S')):=by
 have j:=um hx;have c3:=R.eu;have c:=bM6;rw[a]at c;have k:=bU6;have l:=bO9;obtain⟨d,f⟩:=dA R.to b;clear R hx a b;unfold bR;go_enter func60,ntmps60;go_wp2_with (go_at_call 91;refine(MI d f).mono ?_;rintro e n ⟨rfl,T⟩;have i:=ag T;clear T);go_ret;exact⟨ii,i⟩
theorem vp(x:bI)(hx:S.gs[g]?=x)(a:x.ae≠0/\x.ae≠20/\x.ae≠18):gt 60 #[bR F,I g] w (eL (.bool false) λw'=>w=w'):=by
 have b:=um hx;have c3:=R.eu;have c:=bM6;have d:(x.ae==0)=false:=by simpa using a.1
 have e:(x.ae==20)=false:=by simpa using a.2.1
 have f:(x.ae==18)=false:=by simpa using a.2.2
 have i:=bU6;have j:=bO9;clear R hx a;unfold bR;go_enter func60,ntmps60;go_wp2_with fail
 go_ret;exact⟨ii,ii⟩
end
end
theorem zJ{P:Program}{b:Array Oper}{o:Oper}{a:Act}{K:Act->World->Prop}{Q:Exit->Act->World->Prop}{E:Prop}(nX:o.guard=none)(s x:Operand)(t:TypeId)(f:o.op=.call {callee:=.builtin .append,args:=#[s,x],argTypes:=#[t,t]}){e:TypeId}{i:TypeInfo}(g:P.underlying t=some (.slice e))(j:P.info? e=i)(k:a.eval s=())(d:am)(c:Nat)(l:a.eval x=(d,0,c))(h:K (a.put o.dst ()) v):if Region.wanted o (yielded b a.tmps)=true then Oper.wp P o a v K Q else E:=by
 have m:Region.wanted o (yielded b a.tmps)=true:=cn1
 rw[aF m];exact be7 s x t f g j k d c l h
theorem zK(w:World):gt 81 #[I 1] w λe n=>∃b g:Nat,e=b/\n.heap[b]?=some (.cells #[(g,1,1)] 161 (0,0))/\n.heap[g]?=some (.cells #[I (-1)] 3 (0,0))/\w<=b/\w<=g/\b≠g/\Below w w n:=by
 obtain⟨j,o,q,y,gG⟩:=AC lC;have D:∀W:World,(Instr.makeSlice 28 (I 0) (I 0)).run prog W=.ok (.slice (some ⟨W.heap.size,0,none⟩) 0 0) (W.alloc (.cells (madeCells (I 0).cells (0*j.size)) 3)):=λW=>av9 (P:=prog) 28 3 j underlying28 o q .i64 .i64 0 0 cG cl1 oX W
 have d:∀W:World,(Instr.makeSlice 28 (I 1) (I 1)).run prog W=.ok (.slice (some ⟨W.heap.size,0,none⟩) 1 1) (W.alloc (.cells (madeCells (I 0).cells (1*j.size)) 3)):=λW=>av9 (P:=prog) 28 3 j underlying28 o q .i64 .i64 1 1 cG cl1 oX W
 rw[y]at d;clear o q y gG D;go_enter func81,ntmps81;go_wp2;have O:madeCells #[I 0] 1=#[I 0]:=kX
 obtain⟨g,f⟩:=dC (w.heap.size);obtain⟨z,l⟩:=dC (w.alloc (Obj.cells (madeCells #[I 0] 1) 3));obtain⟨r,s⟩:=dC (z.alloc (Obj.cells #[(w.heap.size,1,1)] 161));rw[<-l,<-s,<-f];have E:z=g+1:=by rw[l,f];simp
 have m:Hid (r.heap[g]?=some (.cells #[I 0] 3 (0,0))/\r.heap[g+1]?=some (.cells #[(g,1,1)] 161 (0,0))/\Below w w r):=by
  refine⟨?_,?_,?_⟩
  .grind [Go.RowKit.Below.heap_alloc,heap_alloc_new]
  .grind [heap_alloc_new]
  rw[s,l];exact((fp).alloc cG _).alloc sX _
 have A:=ag f;clear d l s E f;go_loopw [16] (λi wr=>∃k:Nat,i=.int .i64 k/\k<=1/\Hid (∃v,(k=1->v=I (-1))/\v.oneCell'=true/\wr.heap[g]?=some (.cells #[v] 3 (0,0))/\wr.heap[g+1]?=some (.cells #[(g,1,1)] 161 (0,0))/\Below w w wr)) (λi _=>1-(intOf i).toNat)
 case atStart=>exact⟨0,ii,oX,I 0,(λh=>ck3),ii,m.out.1,m.out.2.1,m.out.2.2⟩
 clear m;obtain⟨k,rfl,Q,t⟩:=hrel;by_cases R:k<1
 .obtain rfl:k=0:=by omega
  obtain⟨v,_,B,a,u,c⟩:=t.out;have S:wr.cell? g=some v:=by rw[cr a];rfl
  have T:=iM wr g 0 a;have U:wr.cell? ⟨g+1,0,none⟩=some (.slice (some ⟨g,0,none⟩) 1 1):=by rw[cr u];rfl
  have F:Hid (∀W:World,W.heap=(wr.setCell g (I (-1))).heap->W.os=wr.os->W.tape=wr.tape->W.output=wr.output->W.heap[g]?=some (.cells #[I (-1)] 3 (0,0))/\W.heap[g+1]?=some (.cells #[(g,1,1)] 161 (0,0))/\Below w w W):=λW x G H J=>by
   have C:=c.setCell (p:=g) (by show w.heap.size<=g;rw[A.out];exact rx _) (I (-1));refine⟨?_,?_,?_⟩
   .rw[x];exact ms _ _ 0 _ _ _ a
   .grind [Go.RowKit.Below.heap_setCell]
   exact⟨G.trans c.os,H.trans c.tape,J.trans c.output,by rw[x];exact C.size,λb K=>by rw[x];exact C.block b K⟩
  clear a u c t;go_wp2;go_roundw
  case rel=>
   obtain⟨L,M,N⟩:=F.out _ ii ii ii ii;exact⟨1,ii,oX,I (-1),(λ_=>rfl),ii,L,M,N⟩
  simp[intOf]
 obtain rfl:k=1:=oX
 go_wp2;go_ret;obtain⟨v,B,_,a,u,c⟩:=t.out;rw[B trivial]at a;have f:=A.out;simp_all
theorem DT(b:Nat)(a:am)(c:Nat)(w:World):gt 191 #[b,(a,0,c)] w (oV λd=>w=d):=by
 go_enter func191,ntmps191;go_wp2;go_loopw [9] (λi wr=>i=.int .i64 0/\wr=w) (λi _=>0)
 case atStart=>exact⟨ii,ii⟩
 obtain⟨rfl,rfl⟩:=hrel;exact bZ9
theorem Jj{L:List (bH×oJ)}(H:eh n v u L):gt 81 #[I 1] u λe a=>∃b g:Nat,e=b/\eh n v a ((.dY,some b,0,[(g,1,1)])::(.dQ,some g,1,[I (-1)])::L):=by
 refine(zK u).mono ?_;rintro e a ⟨b,g,rfl,f1,f2,f4,f5,f6,f7⟩;exact⟨b,g,ii,H.Sv f7 f4 (fF f1 ii (λp h=>cq7)) f5 (fF f2 ii (λp h=>by simp[eI]at h;subst h;exact⟨ii,ii,cj7⟩)) f6⟩
theorem Qf{a:bi}{v:Value}(h:a[n]?=v):a.set n v=a:=by
 grind [List.set_getElem_self]
theorem eh.same{L:List (bH×oJ)}(H:eh n u f L){r:bH}{b cap j:Nat}{d:bi}{v:Value}(g:(r,some b,cap,d)∈L)(m:d[j]?=v):eh n u (f.setCell (b,j) v) L:=by
 have i:=(H.lies _ g b ii).1;refine⟨H.below.setCell (p:=(b,j)) i v,cv6,H.nd,λe a c h=>⟨(H.lies e a c h).1,?_⟩,H.none_⟩;have k:=(H.lies e a c h).2;by_cases l:c=b
 .subst l;have:=BL H.nd a g h ii;subst this;have:=k.set j v;grind [Qf]
 grind [aQ0.other,Go.RowKit.Below.heap_setCell]
theorem eh.frozen{a:Nat}{c w:World}{L:List (bH×oJ)}(H:eh a c w L){r:bH}{b cap:Nat}{d:bi}(h:(r,some b,cap,d)∈L)(j:Nat):w.frozen? (b,j)=false:=(H.lies _ h b ii).2.frozen j
theorem Gf(f D l m:am)(E F n c1:Nat)(w:World)(o:∃b off:Nat,f=(b,off)/\b<w/\w.cell? (b,off)=some (.slice l 0 n)/\w.cell? (b,off+1)=some (.slice m 0 c1)):gt 131 #[I 2,I 1,(f,2,E),(D,0,F),I 0] w λe G=>∃b g q:Nat,e=Value.tuple #[b,I 0]/\eh w w G [(.Eg,some b,0,[I 2,I 1,(g,2,2),(),I 0,(q,2,2)]),(.aC,some g,2,[(),()]),(.bV,some q,2,[B false,B false])]:=by
 obtain⟨T,H,U,Y,Z⟩:=AC lC;have p:eh w w w []:=⟨fp,rx _,sX,λe h=>cj5,λe h=>cj5⟩;have s:=ag (E1 2 2 1 oX oX dX p);have t:=ag o;have u:=ag DT;clear p o;go_enter func131,ntmps131;obtain⟨c,off,rfl,x,_,_⟩:=t.out
 have J:Hid (∀W,Below w.heap.size w W->W.cell? ⟨c,off,none⟩=some (.slice l 0 n)/\W.cell? ⟨c,off+1,none⟩=some (.slice m 0 c1)):=λW y=>by
  obtain⟨K,VK,e,L,z,M⟩:=t.out
  cases e;exact⟨cw y cG _ _ z,cw y cG _ _ M⟩
 go_upto_region 7 with(go_at_call 78;refine s.out.mono ?_;rintro e N ⟨b,g,q,rfl,X⟩;have a:Hid (eh w w N [(.Eg,some b,0,[I 2,I 1,(g,2,2),(),I 0,(q,2,2)]),(.aC,some g,2,[(),()]),(.bV,some q,2,[B false,B false])]):=X;have O:=X.cell (r:=.Eg) (j:=4) (rn ..) ii;have f4:=X.frozen (r:=.Eg) (rn ..) 4;clear X)
 have A:=ag (a.out.same (r:=.Eg) (j:=4) (v:=I 0) (rn ..) ii);clear a O f4 s x;go_wp2_with fail
 go_loopw [40] (λi wr=>∃k:Nat,i=.int .i64 k/\k<=2/\Hid (eh w w wr [(.Eg,some b,0,[I 2,I 1,(g,2,2),(),I 0,(q,2,2)]),(.aC,some g,2,[(),()]),(.bV,some q,2,[B false,B false])])) (λi _=>2-(intOf i).toNat)
 case atStart=>exact⟨0,ii,oX,A⟩
 clear A;obtain⟨k,rfl,hk,a⟩:=hrel;have f2:=a.out.frozen (r:=.aC) (nO _ (rn ..)) k;have p3:=a.out.cell (r:=.Eg) (j:=3) (rn ..) ii;have p2:=a.out.cell (r:=.Eg) (j:=2) (rn ..) ii;have Q:=a.out.frozen (r:=.Eg) (rn ..) 3;by_cases x:k<2
 .obtain⟨d,C,d0⟩:∃d C,wr.cell? (c,off+k)=some (.slice d 0 C):=by
   obtain⟨L,z⟩:=J.out wr a.out.below;grind
  have q2:wr.cell? ⟨g,k,none⟩=some (.slice none 0 0):=by
   rcases(show k=0\/k=1 by omega)with rfl|rfl
   .exact a.out.cell (r:=.aC) (j:=0) (nO _ (rn ..)) ii
   exact a.out.cell (r:=.aC) (j:=1) (nO _ (rn ..)) ii
  have R:Hid (∀W:World,eh w w W [(.Eg,some b,0,[I 2,I 1,(g,2,2),(),I 0,(q,2,2)]),(.aC,some g,2,[(),()]),(.bV,some q,2,[B false,B false])]->eh w w (W.setCell (g,k) ()) [(.Eg,some b,0,[I 2,I 1,(g,2,2),(),I 0,(q,2,2)]),(.aC,some g,2,[(),()]),(.bV,some q,2,[B false,B false])]):=λW X=>by
   rcases(show k=0\/k=1 by omega)with rfl|rfl
   .grind [eh.same]
   grind [eh.same]
  go_upto_region 12 with(go_at_call 191;refine(u _ _ _ _).mono ?_;rintro e S ⟨rfl,rfl⟩)
  cases d
  all_goals
   go_region;go_wp2;go_roundw
   case rel=>exact⟨k+1,cj8,oX,ag (R.out _ a.out.drew)⟩
   simp[intOf];omega
 obtain rfl:k=2:=oX
 go_wp2_with (first|(go_at_call 191;refine(u _ _ _ _).mono ?_;rintro e S ⟨rfl,rfl⟩)|(at_builtin;refine gO ii (.const ()) (.tmp 69) 28 rfl underlying28 H ii _ _ ii ?_));go_ret2;exact⟨b,g,q,ii,a.out.same (r:=.Eg) (j:=3) (rn ..) ii⟩
section
variable(db:Nat)(a:am)(c:Nat)(w:World)(h0:w.cell? db=some (.slice a 0 c))(h1:w.cell? (db,1)=I 0)
include db a c w h0 h1
theorem JF:gt 192 #[db] w (eL (I 0) λb=>∃n,b=w.drewN n):=by
 go_enter func192,ntmps192;go_upto_region 1 with fail
 go_region
 all_goals
  go_wp2;go_ret;exact⟨ii,_,ii⟩
theorem JG(g:w.frozen? (db,1)=false):gt 132 #[db,I 0] w (ee λb=>∃n,b=(w.drewN n).setCell (db,1) (I 0)):=by
 have f:Hid (∀W:World,W.heap=w.heap->gt 192 #[db] W λe b=>e=I 0/\∃k,b=W.drewN k):=λW d=>JF db a c W ((kZ (w:=w) (a:=db) (by rw[d])).trans h0) ((kZ (w:=w) (a:=(db,1)) (by rw[d])).trans h1)
 clear h0;go_enter func132,ntmps132;go_upto_region 1 with fail
 go_region_with (go_at_call 192;refine(f _ ?_).mono ?_;rfl;rintro e h ⟨rfl,i,rfl⟩)
 all_goals
  go_wp2;go_end0;exact⟨ii,_,ii⟩
end
theorem JH(b g:Nat)(a:am)(c:Nat)(w:World)(e:w.cell? b=some (.slice a 2 c))(f:g<2):gt 85 #[b,I g] w (oV λd=>w=d):=by
 go_enter func85,ntmps85;go_wp2;go_ret;exact⟨ci8,ii⟩
theorem MZ(b a g:Nat)(c:Nat)(w:World)(d:w.cell? b=some (.slice a 2 c))(f:g<2)(k:w.cell? (a,g*2)=I 0)(l:w.cell? (a,g*2+1)=B false)(m:∀(j:Nat),w.frozen? (a,j)=false):gt 133 #[b,I g,I 0,.bool false] w (oV λh=>h=(w.setCell (a,g*2) (I 0)).setCell (a,g*2+1) (B false)):=by
 have i:=ag (JH b g a c w d f);go_enter func133,ntmps133;go_wp2_with (go_at_call 85;refine i.out.mono ?_;rintro e n ⟨rfl,rfl⟩);go_ret;exact⟨ii,ii⟩
namespace V
section
variable{w w2:Wd}{g s:Nat}{x x' y y':bI}{sd':fE}{o:cu}{q q':er}
theorem aT9(a:6<=x.ae/\x.ae<=8)(b:(aP x).ai≠9)(e:aP x'=aP x)(c:Int)(h:aH0 x' c):aH0 x c:=by
 grind [aJ6]
theorem aZ3{l:List fE}{u v:fE}(h:l[s]?=u):(l.set s v)[s]?=v:=nH (um h)
section
variable(I:Inv w N)(J:Inv2 w)(hx:w.gs[g]?=x)
include I J hx
theorem aK6(R:Na w g)(i:aT x)(D:x.br=s):∃(z:Nat) (sd:fE) (y:bI) (q':er),fZ w s=some {w with ef:=q'}/\w.ah[s]?=sd/\sd.g=z/\z≠g/\w.gs[z]?=y/\aL x sd.ch/\∀{E:Wd} {sd':fE} (r:nP) (l p:Int),r.aJ≠0->p=16\/p=30->E.gs=(w.gs.set z {y with aN:=s}).set g {x with OK:=x.OK++[(z:Int)],br:= -1,res:=r,k:=l,ae:=p}->E.ah=w.ah.set s sd'->(sd'.cK=sd.cK/\sd'.g=sd.g/\sd'.case=sd.case/\sd'.ch=sd.ch/\sd'.cF=sd.cF)->E.ef=q'->E.aO=w.aO->E.ax=w.ax->E.done=w.done->E.UB=w.UB->(∀(c:Nat) r,w.au[c]?=some r->E.au[c]?=r\/aL x ((c:Int)+1))->E.av=w.av->w.au<=E.au.length->Yu {x with OK:=x.OK++[(z:Int)],br:= -1,res:=r,k:=l,ae:=p}+1<=Yu x->aH2 w E g x:=by
 have S:x.ae=8\/x.ae=27:=i;have m:¬aW x:=uy oX;have F:¬aw0 x/\¬aW x:=⟨co6,m⟩;obtain⟨z,sd,y,q',d1,d2,d3,d4,d5,d6,_⟩:=I.Pg hx R i m (Ca oX) D;obtain⟨a,b,Nf,y0,h1,G,h3,h4,h5,H,h7,T,h9,ph,rA,uQ,uu⟩:=I.claim g x hx i;obtain rfl:a=s:=oX
 rw[d2]at G;cases G;obtain rfl:b=z:=oX
 rw[d5]at H;cases H;obtain⟨U,W,xY⟩:=J.a4 g x a b sd y hx i D d2 d3 d5;have K:=(I.loc g x hx).kp oX;have X:(aP x).ai≠1/\(aP x).ai≠6:=by constructor<;>(intro h;rcases S with e|e<;>rw[h,e]at K<;>simp[bG]at K)
 refine⟨b,sd,y,q',d1,d2,d3,d4,d5,d6,?_⟩;intro E sd' r l p e0 Y Z v f A L M e7 eD e8 e9 Lj a1;obtain⟨q2,B,r1,r2,_,r4⟩:=aJ2 I (um d2) ii d1;have B:q'=q2:=congrArg Wd.ef B;subst B;refine aR2.pR (z:=b) (y:=y) (y':={y with aN:=a}) (x':={x with OK:=x.OK++[(b:Int)],br:= -1,res:=r,k:=l,ae:=p}) {hx:=hx,hy:=d5,ne:=d4,yf:=⟨ii,.inl rfl,.inr λ_ _=> .inl U,.inl rfl⟩,wy:=T,py:=⟨W,.inl rfl⟩,gs:=Z,aO:=L,q:=λk=>by rw[A];exact r1 k,dr:=λc h=>by have:=h.1;omega,r:=e8,s1:=aK1 I d2 (λ_ j u Q _ hj=>?_) v,s2:=aK2 d2 (λ_ _=>f.2.1) v,nwx:=m,a4:=λh=>aX h co7,a5:=λ_=>⟨WF _,sX⟩,cm:=λ_ s' z' AU f1 f2 f3=>⟨?_,co7⟩,done:=e7,ds:=eD,g2:=G2.aK5 I J hx F L ii ii (λc h=>aX h (aI2 ci9 c)) ci9,Yu:=by rw[A,M];omega,st:=e9,rl:=Lj,tl:=λ_=> .inr (aY7 X λd h=>?_),p0:=oX,Bo:=by(unfold Ra aY6 aW;simp only;omega),a0:=ww λh=>F.1 ((J.g2 g x hx).early h),iq:=λt AU f1 f2=>?_,bn:=M,lv:=λt u f1 f2=>?_}
 .obtain rfl:j=b:=by omega
  rw[d5]at Q;cases Q;omega
 .obtain rfl:s'=a:=by omega
  rw[d2]at f2;cases f2;omega
 .have h:x.bF<0:=h.1;omega
 .by_cases e:t=a
  .subst e;rw[d2]at f2;cases f2;exact .inr d3
  exact .inl (by rw[A];exact r4 t e f1)
 rw[v]at f1;by_cases e:a=t
 .subst e;rw[aZ3 d2]at f1;cases f1;exact⟨sd,d2,by rw[<-f.1];exact f2,f.2.1,f.2.2.1,f.2.2.2.1,f.2.2.2.2⟩
 rw[oA e]at f1;exact⟨u,f1,f2,ii,ii,ii,ii⟩
theorem aM7(a:Na w g)(c:(aP x).ai=2\/(aP x).ai=4)(hp:x.ae=(8:Nat)){v:Int}(h:aW8 w g v=E):aH2 w E g x:=by
 have L:=bT4;obtain⟨s,ON⟩:=bT9;obtain⟨z,sd,y,q',d1,d2,d3,d4,d5,d6,F⟩:=aK6 I J hx a (.inl hp) ON;have b:nat? x.br=s:=cr9
 unfold aW8 at h;simp only[hx,b,d1,d2,bW,eN]at h;rw[mZ (w:=({w with ef:=q'}:Wd).cJ s {sd with v:=v}) (z:=z) (y:=y) (sd:={sd with v:=v}) hx (qN d2) d3 d5 d4 cq6]at h;simp only[eN]at h;rw[qK (x:={x with OK:=x.OK++[(z:Int)],br:= -1}) (di (x:=x) _ cn3),cY]at h
 cases h;exact F (sd':={sd with v:=v,done:=true}) (bZ 1) x.k 16 (by simp[bZ]) (.inl rfl) ii (by simp[Wd.ay,Wd.cJ]) ⟨ii,ii,ii,ii,ii⟩ ii ii ii ii ii (λ_ _ h=> .inl h) ii cG (aT4 8 16)
theorem aM8(b:Na w g)(t:(aP x).ai=3\/(aP x).ai=5)(hp:x.ae=(8:Nat))(h:pZ w g (aP x).ch=E):aH2 w E g x:=by
 have L:=bT4;obtain⟨s,ON⟩:=bT9;obtain⟨z,sd,y,q',d1,d2,d3,d4,d5,d6,F⟩:=aK6 I J hx b (.inl hp) ON;have d:nat? x.br=s:=cr9
 have e:=bT6;have u:aL x (aP x).ch:=cx8
 obtain⟨f,r,i,A⟩:=gz I e;have j:cZ ({w with ef:=q'}:Wd) (aP x).ch=true:=f;have l:kq ({w with ef:=q'}:Wd) (aP x).ch=some (((aP x).ch-1).toNat,r):=i;unfold pZ ik at h;simp only[hx,d,d1,j,l,d2,aH6,dF,bW,eN,cI]at h;obtain⟨⟨W,v⟩,m,B,a,h⟩:=h
 have p:W.gs=w.gs/\W.ah=w.ah/\W.ef=q'/\W.aO=w.aO/\W.ax=w.ax/\W.done=w.done/\W.UB=w.UB/\(∀(c:Nat) r,w.au[c]?=some r->W.au[c]?=some r\/aL x ((c:Int)+1))/\W.av=w.av/\w.au.length<=W.au.length:=by
  split at m
  .grind
  grind [Wd.dZ]
 obtain⟨f1,f2,f3,f4,f5,f6,f8,f7,f9,f10⟩:=p;rw[mZ (w:=W) (z:=z) (y:=y) (sd:=sd) (x:=x) (by rw[f1];exact hx) (by rw[f2];exact d2) d3 (by rw[f1];exact d5) d4 cq6]at a
 cases a;rw[qK (x:={x with OK:=x.OK++[(z:Int)],br:= -1}) (di (x:=x) _ cw6),cY]at h
 cases h;exact F (sd':={sd with done:=true}) {aJ:=1,case:= -1,v:=v,ok:=true} x.k 16 sX (.inl rfl) (by rw[<-f1];rfl) (by rw[<-f2];rfl) ⟨ii,ii,ii,ii,ii⟩ f3 f4 f5 f6 f8 f7 f9 f10 (aT4 8 16)
theorem aO8(p:(aP x).ai=2\/(aP x).ai=3)(B:x.ae=(10:Nat)){u:fE}(f:u.g=g/\u.case= -1/\u.ch=(aP x).ch/\u.cF=decide ((aP x).ai=2))(h:rE w g u=E):aH2 w E g x:=by
 have L:=bT4;have i:x.bJ=0:=ww λh=>(show ¬aw0 x by unfold aw0;omega) ((J.g2 g x hx).early h)
 have r:g<w.gs.length:=um hx;unfold rE at h;simp only[hx,bW,eN]at h;split at h
 .rename_i t;obtain⟨j,l,v,d,_,m⟩:=I.ZV r t u;simp only[v,eQ,d,eN]at h
  cases h;have k:∀c,aH0 {x with bY:=(j:Int),ae:=11} c->aH0 x c:=λc h=>by grind [aJ6,aP]
  refine Own.pR (x':={x with bY:=(j:Int),ae:=11}) {hx:=hx,zp:=λh=> .inl ⟨.inl ⟨p,oX⟩,ii⟩,io:=λ_ h=>aX i h,lv:=λs sd' h b=>?_,s1:=aK1 I d (λb=>aX b λb=>m g x hx l d b) ii,s2:=aK2 d (λb=>aX b λb=>m g x hx l d b) ii,g2:=G2.aK5 I J hx cp0 ii ii ii k sX,Yu:=aI4 10 11};have h:(w.ah.set j u)[s]?=some sd':=h;by_cases e:j=s
  .subst e;rw[aZ3 d]at h;cases h;exact .inr ⟨f.1,.inl ⟨cp1,ii,f.2.1,f.2.2.1,f.2.2.2⟩⟩
  rw[oA e]at h;refine .inl ⟨sd',h,b,ii,ii,ii,ii,λ_ A=>?_⟩;have D:=L.tI (.inr oX);rcases A with⟨_,a,_⟩|⟨a,_⟩<;>omega
 cases h;exact aH3 I J hx _ 10 16
theorem aL9(j:(aP x).ai=2\/(aP x).ai=3)(u:x.ae=(11:Nat))(v:Y=2*(aP x).ch-1\/Y=2*(aP x).ch-2)(h:rF w g Y=E):aH2 w E g x:=by
 unfold rF at h;simp only[hx,bW,eN,cI]at h;obtain⟨A,l,h⟩:=h;obtain⟨q',rfl,m,B,p,D⟩:=aO3 l
 cases h;have L:=bT4;have F:=L.aN.2 (uy oX);have d:¬pP w (aP x).ch:=(J.g2 g x hx).nc _ ((aJ6 oX).2 ⟨oX,ii⟩);have r:aL x (aP x).ch:=cx8
 have G:=bT6;have t:=J.stp
 have f:∀s:Nat,aZ1 x s->JP q' s:=λs b=>by
  rcases b with b|⟨i,b⟩
  .obtain⟨sd,a,_⟩:=I.bY g x s hx b;grind [Inv.aS,bf8,Inv.c8]
  grind [Loc.yC]
 exact Own.pR (x':={x with bJ:=w.av,ae:=12}) {hx:=hx,aw:=λ_=> .inl (.inl ⟨cp1,.inl rfl⟩),tu:=.inr (.inr ⟨oX,sX,ii,ii,ii,.inr rfl,.inl rfl⟩),ar:=λ_=> .inr rfl,iq:=λs sd h _=> .inl (p s h),io:=λ_ _ s h=> .inr (.inr (f s h)),ow:=λ_ _=> .inl ⟨.inl ⟨j,oX⟩,ii⟩,q:=λk=>(m k).imp id λe=>by rw[e,show Y / 2+1=(aP x).ch by omega];exact⟨d,r⟩,g2:=⟨λc h=>aX h (aI2 sX c),λ_ h=>cj5,λ_=> .inl ⟨j,.inl sX⟩,λs h=>ck1,λc h=>aX h.1 sX,(J.g2 g x hx).sh⟩,Yu:=aI4 11 12}
theorem aO9(m:Na w g)(hk:(aP x).ai=2\/(aP x).ai=3)(p:x.ae=(14:Nat))(r:fE->nP)(i:∀sd,sd.done=false->((aP x).ai=2->(r sd).aJ≠1)/\((aP x).ai=3->(r sd).ok=false))(h:((nat? x.aN).bind λs=>(w.ah[s]?).bind λsd=>some (w.ay g {x with res:=r sd,aN:= -1,ae:=15}))=E):aH2 w E g x:=by
 obtain⟨s,sd,j,f,B,D,F,H⟩:=I.Wr hx m p;have t:nat? x.aN=some s:=by rw[j];exact eQ s
 simp only[t,f,eN]at h
 cases h;have G:=bY2;refine Own.pR (x':={x with res:=r sd,aN:= -1,ae:=15}) {hx:=hx,aw:=λ_=> .inr (.inr (.inr ⟨oX,ii⟩)),pk:=λh=> .inr ⟨h.imp id λh=>aX h sX,ii⟩,tl:=λ_=> .inr (aY7 cq8 λd u=>?_),g2:=⟨λc h=>aX h (aI2 sX c),λ_ h=>cj5,λ_=> .inl ⟨hk,.inl sX⟩,λs h=>ck1,λc h=>aX h.1 sX,(J.g2 g x hx).sh⟩,Yu:=aI4 14 15}
 exfalso;obtain⟨k,v,l,A⟩:=u;have k:x.bF<0:=k;rcases G.par s j with h|⟨K,a,b⟩
 .omega
 rw[f]at a;cases a;rcases hk with hk|hk
 .exact(i sd b).1 hk v
 have e:d.cF=false:=by have l:Xq (aP x) x.fire=some d:=l;grind [Xq]
 have:=A e;have f:(r sd).ok=true:=this;rw[(i sd b).2 hk]at f;cases f
end
def JM(w:Wd)(x:bI):Prop:=∃c h:Int,1<=c/\c<=w.au/\w.aq[(c-1).toNat]?=h/\h≠ -1/\((aP x).ai≠9/\x.ae=4/\c=(aP x).ch\/(aP x).ai=9/\(x.ae=24\/x.ae=31)/\idx x.aq x.k=c)
section
variable(I:Inv w N)(hk:0<=Y/\Y<16)
include I hk
theorem aM1(h:(w.ef.first Y).2=false):w.ef.len Y<=0:=by
 grind [er.first,er.len]
theorem KH{a hand:Int}(h:Mach.take w g Y a hand=(E,false)):w.ef.len Y<=0:=by
 refine aM1 I hk (ww λb=>?_);unfold Mach.take at h;rw[aE b]at h;simp only[bW,cI]at h;grind [cI,aH5]
end
section
variable(I:Inv w N)(J:Inv2 w)(hx:w.gs[g]?=x)
include I J hx
theorem aM0(m:Na w g)(p:2<=(aP x).ai/\(aP x).ai<=5)(b:x.ae=(6:Nat))(d:Y=2*(aP x).ch-2\/Y=2*(aP x).ch-1)(h:Mach.take w g Y 7 8=(E,Z)):Z=false/\E=w/\w.ef.len Y<=0\/Z/\aH2 w E g x:=by
 have e:=bW4;have f:aL x (aP x).ch:=cx8
 have a:Z=false/\E=w\/Z=true:=by grind [Cc]
 rcases a with a|a
 .grind [KH,Inv.c8]
 refine .inr ⟨a,?_⟩;rcases aO7 I J hx cp0 (by unfold bm;omega) (Ca oX) oX e f d 7 8 6 b oX (λx' i j _ _ _ c k=>aT9 oX oX (oM i j) c k) cl0 cl0 h with t|⟨s,_,t⟩|⟨r,l,_,_,t⟩
 .grind
 .exact t
 exact aQ6 (P:=λE=>aH2 w E g x) l t
theorem aP0(i:2<=(aP x).ai/\(aP x).ai<=5)(a:x.ae=(7:Nat))(h:rD w g 6 8=E):aH2 w E g x:=by
 rcases aQ7 I J hx cp0 (.inl a) (Ca oX) oX 6 8 7 a oX (λx' b d _ _ _ c e=>aT9 oX oX (oM b d) c e) cl0 cl0 h with⟨_,_,_,t⟩|⟨j,f,_,_,t⟩
 .exact t
 exact aQ6 (P:=λE=>aH2 w E g x) f t
theorem aQ8(i:2<=(aP x).ai/\(aP x).ai<=5)(j:x.ae=(6:Nat))(d:w.ef.len (Uj ((aP x).ai=2\/(aP x).ai=4) (aP x).ch)<=0)(h:Gt w g 9=E):aH2 w E g x:=by
 rw[aX9 hx]at h;cases h;have G:=bY2;exact aH3 I J hx _ 6 9 (nc:=λc h=>by obtain⟨a,b⟩:=bW5;have a:(aP x).ai=2/\6<=(9:Int)/\(9:Int)<=11\/(aP x).ai=3/\(6<=(9:Int)/\(9:Int)<=8\/(9:Int)=10\/(9:Int)=11):=a;exact G.nc c ((aJ6 oX).2 ⟨.inl ⟨oX,oX⟩,b⟩)) (eU:=λ_ e f=>aX f (G.nc _ ((aJ6 oX).2 ⟨.inr ⟨e,oX⟩,ii⟩))) (n9:=by exact λ_=>d)
theorem aM9(c:(aP x).ai=5)(a:x.ae=(1:Nat)\/x.ae=(2:Nat)\/x.ae=(3:Nat))(h:aW9 w g (aP x).ch=E):aH2 w E g x:=by
 unfold aW9 at h;simp only[hx,bW,eN]at h;rcases a with a|a|a
 .rw[aF (show x.ae=1 from a)]at h;simp only[cI]at h;obtain⟨b,_,h⟩:=h;split at h
  .rw[aX9 hx]at h;cases h;exact aH3 I J hx _ 1 4
  cases h;exact aH3 I J hx _ 1 2
 .rw[aE oX,aF (show x.ae=2 from a)]at h;split at h
  .rw[aX9 hx]at h;cases h;exact aH3 I J hx _ 2 3
  cases h;exact aH3 I J hx _ 2 18
 rw[aE oX,aE oX]at h;simp only[cI]at h;obtain⟨b,_,h⟩:=h;split at h
 .cases h;exact aH3 I J hx _ 3 4
 cases h;exact aH3 I J hx _ 3 18
theorem bx3(r:x.ae=(5:Nat))(i:1<=(aP x).ch/\(aP x).ch<=w.au)(f:(aP x).ai≠9)(k:pP w (aP x).ch)(b:Bool):w.ef.len (Uj b (aP x).ch)<=0:=by
 have l:aL x (aP x).ch:=by unfold aL cH;rw[aE f];exact⟨oX,ii⟩
 rcases J.dr _ k with⟨a,c⟩|⟨j,y,a,d⟩
 .grind [Uj]
 have m:aL y (aP x).ch:=by
  have f:=(I.loc j y a).kp (by have:=d.1;omega);have p:(aP y).ai≠9:=by intro h;rw[h]at f;rcases d.1 with e|e<;>rw[e]at f<;>simp[bG]at f
  unfold aL cH;rw[aE p];exact⟨by have:=d.1;omega,d.2.symm⟩
 have e:=I.lock.one a hx m l (Pd I i);subst e;rw[hx]at a;cases a;have:=d.1;omega
theorem aL5(j:(aP x).ai=3\/(aP x).ai=5)(e:x.ae=(5:Nat))(h:jI w g (aP x).ch=E):aH2 w E g x:=by
 have hm:=bW4;obtain⟨k,r,d,l⟩:=gz I hm;have f:w.au[((aP x).ch-1).toNat]?=r:=by unfold kq at d;simp only[bW,cI]at d;simp_all
 unfold jI at h;simp only[hx,d,bW,eN]at h;split at h
 .rename_i hc;split at h
  .rename_i i;rw[aX9 hx]at h;cases h;exact aH3 I J hx _ 5 9 (nc:=λc h=>by obtain⟨a,b⟩:=bW5;have a:(aP x).ai=2/\6<=(9:Int)/\(9:Int)<=11\/(aP x).ai=3/\(6<=(9:Int)/\(9:Int)<=8\/(9:Int)=10\/(9:Int)=11):=a;omega) (eU:=λ_ _ _=>⟨r,f,i⟩) (n9:=by exact λ_=>bx3 I J hx e hm oX ((aT8 I hm).1 hc) _)
  cases h;exact aH3 I J hx _ 5 16
 rename_i hc;rw[aX9 hx]at h;cases h;exact aH3 I J hx _ 5 6 (nc:=λc h=>cy3)
theorem aN0(t:(aP x).ai=3\/(aP x).ai=5)(hp:x.ae=(9:Nat))(h:jZ w g (aP x)=E):aH2 w E g x:=by
 have j:=bW4;have hh:aL x (aP x).ch:=cx8
 obtain⟨k,r,e,u⟩:=gz I j;have l:w.au[((aP x).ch-1).toNat]?=r:=by unfold kq at e;simp only[bW,cI]at e;simp_all
 unfold jZ getRing at h;simp only[k,e,dt,bW,eN]at h;have kt:(w.dZ ((aP x).ch-1).toNat r.get.1).gs[g]?=x:=hx;have hr:=aJ3 (w:=w) (c0:=((aP x).ch-1).toNat) (r':=r.get.1) (x:=x) cu0;split at h
 .exact cc6
 rename_i m;split at h
 .rename_i p;rw[aX9 kt]at h;cases h;refine aH3 I J hx _ 9 10 (e4:=hr) (nc:=λc h=>?_);obtain⟨a,b⟩:=bW5;intro f;rw[b]at f;obtain⟨v,i,A⟩:=(J.g2 g x hx).eU p hp f;rw[l]at i;cases i;apply m;unfold Ring.get;rw[aE oX]
 rw[qK kt]at h;cases h;exact aH3 I J hx _ 9 16 (e4:=hr)
theorem aS6(j:2<=(aP x).ai/\(aP x).ai<=6)(d:x.ae=(4:Nat))(h:Mach.lock w g ((aP x).ch-1)=E):E=w/\JM w x\/aH2 w E g x:=by
 have a:=bW4;obtain⟨o,e,f⟩:=vS I (um hx) a;unfold Mach.lock at h;rw[f]at h;by_cases b:o= -1
 .simp only[aF b,dt]at h;have i:({w with aq:=w.aq.set ((aP x).ch-1).toNat g}:Wd).gs[g]?=x:=hx;rw[qK i]at h;cases h;right;by_cases c:(dH w g).ai=6
  .simp only[aF c];exact aH3 I J hx _ 4 21
  simp only[aE c];exact aH3 I J hx _ 4 5
 simp only[aE b]at h
 cases h;exact .inl ⟨ii,_,o,a.1,a.2,e,b,.inl ⟨oX,d,ii⟩⟩
end
section
variable{b:List (Int×Bool)}
theorem bi5(h:X≠p):(tD b p).1[X]?=b[X]?:=by
 unfold tD;grind
theorem bv0(h:b[p]?=some (0,Z))(a:Z):(tD b p).1[p]?=some (0,false):=by
 subst a;unfold tD bU token idx;grind
theorem bl7{v:Int}(h:b[p]?=some (0,Z)):∃a,(ready b v).1[p]?=some (0,a)/\(Z->a):=by
 by_cases c:v=p
 .subst c;unfold ready bU token idx;grind
 grind [ready,bU,idx]
end
theorem bv1(I:Inv w N)(c:w.gs[g]?=x){v:Int}(d:v∈x.OK):∃(j:Nat) (t:Bool),v=j/\(ready w.ax v).1[j]?=some (0,t)/\(t\/∃y,w.gs[j]?=some y/\y.ae=14):=by
 obtain⟨j,y,s,rfl,b,f,m,a,p⟩:=I.jn g x v c d;have h:=um a;obtain⟨r,u,A,i,B,D,F⟩:=I.st j y s false b a;have k:bU w.ax j=s:=by unfold bU idx;simp[a]
 have l:token w.ax j=false:=by unfold token idx;simp[a]
 unfold ready;rw[k,l];by_cases e:s=1
 .rw[aF e];exact⟨j,false,ii,by simp[h],.inr ⟨y,b,by have:=i e;unfold aW at f;omega⟩⟩
 have G:s=0:=by grind [aW]
 grind
theorem aJ0(I:Inv w N)(J:Inv2 w)(hx:w.gs[g]?=x)(U:Na w g)(W:2<=(aP x).ai/\(aP x).ai<=6\/(aP x).ai=9)(h:gH w g=(E,Z))(X:Z):E=w/\JM w x\/aH2 w E g x:=by
 have L:=bT4;have G:=bY2;by_cases H:x.ae=0
 .grind [gH,cI]
 obtain⟨r,_⟩:=pj I hx H;have d:=L.kp H;unfold gH at h;simp only[hx,r,bW,eN]at h;by_cases K:x.ae=4
 .rw[aF K]at h;grind [aH5,aS6,bG]
 rw[aE K]at h;right;by_cases A:x.ae=12
 .rw[aF A]at h;cases h;have i:(aP x).ai=2\/(aP x).ai=3:=by rw[A]at d;simp[bG]at d;omega
  exact Own.pR (x':={x with ae:=13}) {hx:=hx,aw:=λ_=> .inl (.inl ⟨cp1,.inr (.inl rfl)⟩),g2:=G.keep ii ii ii (λ_ _=>rfl) (λ_=> .inl ⟨i,.inl sX⟩) sX,Yu:=aI4 12 13 (p:=cq4)}
 rw[aE A]at h;by_cases B:x.ae=13
 .rw[aF B]at h;cases h;have i:(aP x).ai=2\/(aP x).ai=3\/(aP x).ai=9:=by rw[B]at d;simp[bG]at d;omega
  exact Own.pR (x':={x with ae:=14}) {hx:=hx,aw:=λ_=> .inl (by unfold aW;show(aP x).ai≠9/\_\/(aP x).ai=9/\_;simp;omega),bn:=λj t M h=>⟨t,by rw[bi5 M];exact h,id⟩,ow:=λ_ _=> .inr ⟨by unfold aW;omega,ii,ii,λt c b=>⟨false,bv0 c (b.elim id λh=>aX h oX),.inr rfl⟩⟩,g2:=G.keep ii ii ii (λ_ _=>rfl) (λ_=>i.elim (λh=> .inl ⟨.inl h,.inl sX⟩) λh=>h.elim (λh=> .inl ⟨.inr h,.inl sX⟩) λh=> .inr ⟨h,sX⟩) sX,Yu:=aI4 13 14 (eb:=aK4)}
 rw[aE B]at h;by_cases D:x.ae=15
 .rw[aF D]at h;simp only[cI]at h;obtain⟨s,c,S,b,h⟩:=h
  cases h;have i:(aP x).ai=2\/(aP x).ai=3:=by rw[D]at d;simp[bG]at d;omega
  have f:x.bY=s:=by unfold nat? at c;split at c<;>simp at c;omega
  obtain⟨sd,k,T,m,Y⟩:=I.bY g x s hx f;have oE:=L.aN.2 (uy oX);have F:¬aW x:=uy oX;refine Own.pR (x':={x with bY:= -1,ae:=18}) {hx:=hx,s1:=aK1 (sd':={}) I k (λ_ j u hu M e=>oX) ii,s2:=aK2 (sd':={}) k (λ_ e=>by rcases e with e|e;exact aX m e;exact aX e F) ii,io:=λc b t Q=> .inl ⟨c,b,Q.imp (λh=>aX h ci9) id⟩,lv:=λt u h R=>?_,g2:=G.keep ii ii ii (λt e=>oX) (λ_=> .inl ⟨i,.inr rfl⟩) sX,Yu:=aI4 15 18};have h:(w.ah.set s {})[t]?=some u:=h;by_cases e:s=t
  .grind
  rw[oA e]at h;refine .inl ⟨u,h,R,ii,ii,ii,ii,λ_ r=>?_⟩;rcases r with⟨_,a,_⟩|⟨a,_⟩<;>omega
 rw[aE D]at h;by_cases F:x.ae=16
 .rw[aF F]at h;obtain⟨w2,b,e⟩:=aH5.1 h
  cases e;have i:2<=(aP x).ai/\(aP x).ai<=6:=by rw[F]at d;simp[bG]at d;omega
  unfold dk at b;rw[qK (w:=free w ((aP x).ch-1) g) hx]at b;cases b;by_cases f:x.OK=[]
  .simp only[aF f];exact aH3 I J hx _ 16 18
  simp only[aE f];exact aH3 I J hx _ 16 17
 rw[aE F]at h;by_cases R:x.ae=17
 .rw[aF R]at h;simp only[cI]at h;obtain⟨z,c,h⟩:=h;obtain⟨w2,b,e⟩:=aH5.1 h
  cases e
  obtain⟨Q,l,S⟩:∃Q l,x.OK=Q::l:=by
   cases f:x.OK with
   |nil=>rw[f]at c;cases c
   |cons a l=>exact⟨a,l,ii⟩
  have T:(({w with ax:=(ready w.ax z).1}:Wd).ay g {x with OK:=x.OK.drop 1}).gs[g]?=some {x with OK:=x.OK.drop 1}:=di (x:=x) _ hx;unfold dk at b;rw[qK T,cY]at b;cases b;have k:∀p:Int,p=17\/p=18->aw0 x->aw0 {x with OK:=x.OK.drop 1,ae:=p}:=λp Y h=>by unfold aw0 at*;show((aP x).ai=2\/(aP x).ai=3)/\(12<=p/\p<=15\/p=18)\/(aP x).ai=9/\(p=30/\x.res.aJ=0\/p=13\/p=14\/31<=p\/p=17\/p=18);omega
  have m:∀v∈x.OK,v∈x.OK.drop 1\/∃(j:Nat) (t:Bool),v=j/\(ready w.ax z).1[j]?=some (0,t)/\(t=true\/∃y,w.gs[j]?=some y/\y.ae=14):=λv hv=>by grind [bv1]
  have Lw:(x.OK.drop 1).length+1=x.OK.length:=by rw[S];rfl
  by_cases f:x.OK.drop 1=[]
  .simp only[aF f];exact Own.pR (x':={x with OK:=x.OK.drop 1,ae:=18}) {hx:=hx,wk:=m,bn:=λj t _ h=>bl7 h,g2:=G.keep ii ii ii (λ_ _=>rfl) (k 18 (.inr rfl)) sX,Yu:=aI4 17 18 (eb:=aO4 _ _) (p:=ct2)}
  simp only[aE f];exact Own.pR (x':={x with OK:=x.OK.drop 1,ae:=17}) {hx:=hx,wk:=m,bn:=λj t _ h=>bl7 h,g2:=G.keep ii ii ii (λ_ _=>rfl) (k 17 (.inl rfl)) sX,Yu:=aI4 17 17 (eb:=aO4 _ _) (p:=ct2)}
 grind
theorem bv2{l:List Bool}(a:p<l){c:Int}:idx (l.set p true) c=true↔c=p\/idx l c=true:=by
 unfold idx;grind
section
variable(I:Inv w N)(J:Inv2 w)(hx:w.gs[g]?=x)(hk:(aP x).ai=6)
include I J hx hk
theorem aQ1(m:x.ae=(21:Nat))(h:uD w g (aP x).ch=E):aH2 w E g x:=by
 have L:=bT4;have b:=bT6;have f:aL x (aP x).ch:=cx8
 obtain⟨i,_⟩:=gz I b;unfold uD at h;simp only[hx,i,bW,eN,dt]at h;split at h
 .cases h;exact aH3 I J hx _ 21 16
 simp only[cI,aH5]at h;obtain⟨p,⟨c,r,rfl⟩,h⟩:=h
 cases h;have j:w.aO.set ((aP x).ch-1).toNat true=c:=by grind [put]
 subst j;have k:((aP x).ch-1).toNat<w.aO.length:=by have:=I.aO;omega
 have a:∀c,pP (({w with aO:=w.aO.set ((aP x).ch-1).toNat true}:Wd).ay g {x with lQ:=w.av,res:={aJ:=1,case:= -1,ok:=true},ae:=22}) c↔c=(aP x).ch\/pP w c:=λc=>by have:=bv2 k (c:=c-1);unfold pP;show idx (w.aO.set ((aP x).ch-1).toNat true) (c-1)=true↔_;grind
 have l:=J.stp;exact Own.pR (x':={x with lQ:=w.av,res:={aJ:=1,case:= -1,ok:=true},ae:=22}) {hx:=hx,c1:=λc h=>(a c).2 (.inr h),c2:=λc h=>((a c).1 h).elim (λe=> .inr ⟨e▸f,.inl rfl,e.symm⟩) .inl,tl:=λ_=> .inr ⟨λc h=>aX h.1 (by show(aP x).ai≠1;omega),λc h=>(a c).2 (.inl h.2.2.symm),λd h=>cu6⟩,io:=λh=>aX h ci9,g2:=G2.pre L (J.g2 g x hx) co6 (uy oX) ii ii (λc h=>aX h (aI2 sX c)) (λh=>cj5) (λc h=>(a c).2 (.inl h.2.symm)),Yu:=aI4 21 22}
theorem aQ9(d:Nat)(A:x.ae=d)(i:d=22\/d=23)(B:fZ w s=some {w with ef:=q'}){l:bv}(D:N[p]?=l)(F:s∈l)(f:w.ah[s]?=sd)(H:sd.g=z)(r:w.gs[z]?=y)(K:z≠g)(M:aW y)(Q:y.aN= -1)(Y:sd.ch=(aP x).ch)(b:Bool):aH2 w (((({w with ef:=q'}:Wd).cJ s {sd with done:=false}).ay z {y with lQ:=w.av,fire:=sd.case,aR:=b,aN:=s}).ay g {x with br:= -1,t:=w.av,ae:=22,OK:=x.OK++[(z:Int)]}) g x:=by
 have L:=bT4;have G:=bY2;obtain⟨R,k,S,_,T,U⟩:=aJ2 I (um f) ii B;have W:=J.stp;have k:q'=R:=congrArg Wd.ef k;subst k;have X:=T p l D F;have m:pP w (aP x).ch:=G.cl _ ⟨oX,ii⟩;refine aR2.pR (z:=z) (y:=y) (x':={x with br:= -1,t:=w.av,ae:=22,OK:=x.OK++[(z:Int)]}) (y':={y with lQ:=w.av,fire:=sd.case,aR:=b,aN:=s}) {hx:=hx,hy:=r,ne:=K,yf:=⟨ii,.inl rfl,.inr λt e=> .inr ⟨{sd with done:=false},?_,ii⟩,.inr ci9⟩,wy:=M,py:=⟨ci9,.inr rfl⟩,nwx:=uy oX,a5:=λ_=>⟨WF _,sX⟩,cm:=λh=>aX h (by unfold aT;omega),p0:=oX,Bo:=by(unfold Ra aY6 aW;simp),a0:=ww λh=>(show ¬aw0 x by unfold aw0;omega) (G.early h),iq:=λt u f1 f2=>(az3 (t=s)).elim (λe=> .inr (by subst e;rw[f]at f2;cases f2;exact H)) λe=> .inl (U t e f1),lv:=λt u f1 f2=>?_,q:=S,dr:=λc h=>⟨.inl rfl,h.2⟩,s1:=aK1 I f (λ_ j u v _ Z e=>?_) ii,s2:=aK2 (sd':={sd with done:=false}) f (λ_ _=>rfl) ii,a4:=λh=>aX h (by unfold aT;simp),g2:=G2.aK5 I J hx ⟨co6,uy oX⟩ ii ii ii (λc h=>aX h (aI2 sX c)) ⟨sX,λ_ c h=>by rw[<-h.2];exact m⟩,Yu:= ?_}
 .have e:(s:Int)=(t:Int):=e;obtain rfl:s=t:=by omega
  exact qN f
 .obtain rfl:j=z:=by omega
  rw[r]at v;cases v;omega
 .have:=aO6 (x:=x) (x':={x with br:= -1,t:=w.av,ae:=22,OK:=x.OK++[(z:Int)]}) d 22 A ii ii ii ⟨oX,oX⟩ (a:=0) (b:=2) (by rcases i with rfl|rfl<;>simp only[pQ,aU7,sV,aj6]<;>omega);show V.Yu {x with br:= -1,t:=w.av,ae:=22,OK:=x.OK++[(z:Int)]}+Rn w.ax+3*Xr q'+1<=_;omega
 have f1:(w.ah.set s {sd with done:=false})[t]?=some u:=f1;by_cases e:s=t
 .subst e;rw[aZ3 f]at f1;cases f1;exact⟨sd,f,f2,ii,ii,ii,ii⟩
 rw[oA e]at f1;exact⟨u,f1,f2,ii,ii,ii,ii⟩
theorem aR4(u:x.ae=(22:Nat))(h:aZ4 w g (aP x).ch=E):aH2 w E g x:=by
 have L:=bT4;have G:=bY2;have hc:=bT6;have v:¬aW x:=uy oX;have k:¬aw0 x:=co6
 have K:=I.c8;have m:pP w (aP x).ch:=G.cl _ ⟨oX,ii⟩;have M:(sK w (aP x).ch).2=false/\(w.ef.first (2*(aP x).ch-2)).2=false/\(w.ef.first (2*(aP x).ch-1)).2=false\/∃d:Int,(d=2*(aP x).ch-2\/d=2*(aP x).ch-1)/\sK w (aP x).ch=w.ef.first d/\(w.ef.first d).2=true:=by unfold sK;grind
 unfold aZ4 at h;rcases M with⟨p,f1,f2⟩|⟨d,Q,p,R⟩
 .simp only[hx,p,dt,bW,eN]at h;rw[aX9 hx]at h;cases h;have f:=aM1 I oX f1;have i:=aM1 I oX f2;exact Own.pR (x':={x with ae:=16}) {hx:=hx,dr:=λc h=> .inr (by rw[<-h.2];exact⟨f,i⟩),g2:=G2.pre L G k v ii ii (λc h=>aX h (aI2 sX c)) (λh=>cj5) (λc h=>aX h.1 sX),Yu:=aI4 22 16}
 rcases Kr I (kk:=d) oX with h0|⟨s,z,l,sd,y,S,T,U,f,h5,A,i,B,h9,W⟩
 .grind
 have X:=Ks Q W;rw[p,S]at h;simp only[hx,f,eQ,aH6,dF,bW,eN]at h;by_cases D:0<=sd.case
 .rw[aF D]at h;cases h;exact aH3 I J hx {x with br:=s,ae:=23} 22 23 (hd:=λc h=>⟨.inr rfl,h.2⟩) (cl:=λc h=>by rw[<-h.2];exact m)
 rw[aE D]at h;have jA:(aP y).ai≠9:=by rcases B with h|⟨_,h,_⟩;all_goals grind
 have Y:sd.case= -1:=by rcases B with⟨_,_,h,_⟩|⟨h,_⟩;all_goals grind
 rw[aF Y]at h
 have r:aW y/\y.aN= -1:=by
  exact cd8
 have j:z≠g:=by rintro rfl;rw[hx]at i;cases i;exact v r.1
 have N5:=I.aS;have Z:=I.JZ;have mj:=um f;obtain⟨q',_,a,b,c⟩:=bS9;have H:fZ w s=some {w with ef:=q'}:=by unfold fZ;rw[a];rfl
 have eE:(w.ay g {x with br:=s}).gs[g]?=some {x with br:=s}:=di _ hx;rw[Kv (q':=q') (sd:=sd) (z:=z) (y:=y) eE ii (ky H ii) f A (by show(w.gs.set g _)[z]?=_;rw[gd j];exact i) j (by have:=I.sj hx;simp only;omega)]at h;have F:=aQ9 I J hx hk 22 u (.inl rfl) H T U f A i j r.1 r.2 X y.aR
 have e:(((({(w.ay g {x with br:=s})with ef:=q'}:Wd).cJ s {sd with done:=false}).ay z {y with lQ:=w.av,fire:=sd.case,aN:=s}).ay g {x with br:= -1,t:=w.av,OK:=x.OK++[(z:Int)]})=
   (((({w with ef:=q'}:Wd).cJ s {sd with done:=false}).ay z {y with lQ:=w.av,fire:=sd.case,aR:=y.aR,aN:=s}).ay g {x with br:= -1,t:=w.av,ae:=22,OK:=x.OK++[(z:Int)]}):=by
  rw[show(22:Int)=x.ae from u.symm];show(((({w with ef:=q'}:Wd).cJ s {sd with done:=false}).ay g {x with br:=s}).ay z _).ay g _=_;rw[sR (dE j),cY]
 rw[<-e]at F
 cases h;exact F
theorem aN1(v:x.ae=(23:Nat))(h:aX0 w g=E):aH2 w E g x:=by
 have L:=bT4;have G:=bY2;have B:¬aW x:=uy oX;have f:¬aw0 x:=co6
 have tR:∀sd,¬eV x sd:=Ca oX;have i:pP w (aP x).ch:=G.cl _ ⟨oX,ii⟩;obtain⟨s,k,l,sd,a1,j,m,a,W,p⟩:=I.look g x hx (.inr (.inr v));obtain⟨sd',z,y,A,X,b,b4,b5,b6,Y⟩:=I.EJ k l s j m;rw[a]at A;cases A;have mh:z≠g:=co4
 have oz:(aP y).ai=9:=by
  exact ce2
 have U1:=I.loc z y b4;have D:sd.ch=(aP x).ch:=by unfold aL at p;rw[aE oX]at p;exact p.2
 have H:s<w.ah.length:=um a;have hn:nat? x.br=s:=cx6
 have Z:=I.aS;have K:=I.JZ;obtain⟨q',_,M,qb,qc⟩:=bS9;have d:fZ w s=some {w with ef:=q'}:=by unfold fZ;rw[M];rfl
 unfold aX0 at h;simp only[hx,hn,eQ,a,b,b4,bW,eN]at h;rw[aE mh]at h
 cases B9:y.aR with
 |true=>
  simp only[B9,dt,d,eN]at h
  cases h;obtain⟨Q,r,R,_,S,T⟩:=aJ2 I H ii d;have r:q'=Q:=congrArg Wd.ef r;subst r;have U:=S k l j m;exact Own.pR (x':={x with br:= -1,ae:=22}) {hx:=hx,iq:=λt u f1 f2=>(az3 (t=s)).elim (λe=> .inr ⟨z,y,by subst e;rw[a]at f2;cases f2;exact b,by show(w.gs.set g _)[z]?=_;rw[gd mh];exact b4,.inr B9⟩) λe=> .inl (T t e f1),q:=λk=> .inl (R k),dr:=λc h=> .inl ⟨.inl rfl,h.2⟩,g2:=G2.pre L G f B ii ii (λc h=>aX h (aI2 sX c)) (λh=>cj5) (λc h=>by rw[<-h.2];exact i),Yu:=aI4 23 22}
 |false=>
  simp only[B9,nW,dF]at h
  have r:aW y/\y.aN= -1:=by
   exact ca0
  have Q:(w.ay z {y with aR:=true}).gs[g]?=x:=cn7
  rw[Kv (q':=q') (sd:=sd) (z:=z) (y:={y with aR:=true}) Q a1 (ky d ii) a b (di _ b4) mh cq6]at h;simp only[eN]at h;rw[aX9 (x:={x with t:=w.av,OK:=x.OK++[(z:Int)],br:= -1}) (di (x:=x) _ ct3)]at h;have F:=aQ9 I J hx hk 23 v (.inr rfl) d j m a b b4 mh r.1 r.2 D true
  have e:((((({(w.ay z {y with aR:=true})with ef:=q'}:Wd).cJ s {sd with done:=false}).ay z {y with aR:=true,lQ:=w.av,fire:=sd.case,aN:=s}).ay g {x with t:=w.av,OK:=x.OK++[(z:Int)],br:= -1}).ay g {x with t:=w.av,OK:=x.OK++[(z:Int)],br:= -1,ae:=22})=
    (((({w with ef:=q'}:Wd).cJ s {sd with done:=false}).ay z {y with lQ:=w.av,fire:=sd.case,aR:=true,aN:=s}).ay g {x with br:= -1,t:=w.av,ae:=22,OK:=x.OK++[(z:Int)]}):=by
   exact cg1
  rw[<-e]at F
  cases h;exact F
end
end
section
variable{w w' w2 W:Wd}{ls:ap}{g z s C:Nat}{x x' xA y y':bI}{sd sd':fE}{o:cu}{q q':er}
theorem aN2(b:(aP x).ai=9):aH0 x Y↔25<=x.ae/\x.ae<=29/\∃(j:Nat) (i:Int) (a:Case),x.aH[j]?=i/\(aP x).cases[i.toNat]?=a/\a.ch=Y/\(28<=x.ae\/(j:Int)<x.k):=by
 grind [aH0]
section
variable(I:Inv w ls)(J:Inv2 w)(hx:w.gs[g]?=x)(hk:(aP x).ai=9)
include I J hx hk
theorem aJ7(n p:Nat)(b:x.ae=n)(d:n=24/\p=25\/n=31/\p=32)(h:jt w g p=w'):w'=w/\JM w x\/aH2 w w' g x:=by
 have L:=bT4;have G:=bY2;obtain⟨t,u,F⟩:=bT1;have v:=u.1 oX;have A:g<w.gs.length:=um hx;obtain⟨l,f⟩:∃l,x.aq[x.k.toNat]?=some l:=⟨_,fv oX⟩;have a:=t.lk l (lf f);have m:idx x.aq x.k=some l:=by unfold idx;rw[aF v.1];exact f
 obtain⟨o,B,D⟩:=vS I A a;unfold jt at h;simp only[hx,m,bW,eN,D]at h;split at h
 .cases h
 by_cases e:o= -1
 .simp only[aF e,aH6,dF]at h;split at h
  .cases h
  cases h;right;by_cases r:x.k+1=x.aq.length
  .simp only[aF r];rcases d with⟨rfl,rfl⟩|⟨rfl,rfl⟩
   .refine aH3 I J hx {x with k:=0,ae:=25} 24 25 (nc:=λc h=>?_);obtain⟨_,_,j,i,H,_,_,_,E⟩:=(aN2 (by exact hk)).1 h;simp only at E;omega
   exact Own.pR (x':={x with k:=0,ae:=32}) {hx:=hx,g2:=G.keep ii ii ii (λ_ _=>rfl) (λ_=> .inr ⟨hk,sX⟩) sX,Yu:=aI4 31 32 (p:=ct2)}
  simp only[aE r];rcases d with⟨rfl,rfl⟩|⟨rfl,rfl⟩
  .exact aH3 I J hx {x with k:=x.k+1} 24 24 (hn':=b) (hc:=λh=>ck9) (nc:=λc h=>aX h (aI2 ci9 c)) (eU:=λh=>ck1) (cl:=λc h=>aX h.1 ci9)
  exact Own.pR (x':={x with k:=x.k+1}) {hx:=hx,g2:=G.keep ii ii ii (λ_ _=>rfl) (λh=>h) ci9,Yu:=aI4 31 31 (h':=b) (p:=ct2)}
 simp only[aE e]at h
 cases h;exact .inl ⟨ii,l,o,a.1,a.2,B,e,.inr ⟨hk,oX,m⟩⟩
theorem aP1(v:x.ae=(25:Nat))(r:nP)(A:Int)(b:r.aJ≠0)(e:r.aJ=1->∀d,Xq (aP x) r.case=some d->(d.cF=false->r.ok)->w.ef.len (Uj d.cF d.ch)<=0)(f:w'.gs=w.gs.set g {x with res:=r,lQ:=w.av,fire:=r.case,k:=x.aq,ae:=30})(i:w'.aO=w.aO)(a:w'.ef=w.ef)(j:∀(c:Nat) r,w.au[c]?=some r->w'.au[c]?=r\/aL x ((c:Int)+1))(l:w'.ah=w.ah)(m:w'.done=w.done)(n:w'.ax=w.ax)(p:w'.UB=w.UB)(t:w'.av=w.av)(u:w.au<=w'.au.length):aH2 w w' g x:=by
 obtain⟨B,s2,D⟩:=bY3;have E:=bT2;exact aH3 I J hx {x with res:=r,lQ:=w.av,fire:=r.case,k:=x.aq.length,ae:=30} 25 30 (e1:=f) (e2:=i) (e3:=a) (e4:=j) (e5:=l) (e6:=m) (e9:=p) (e7:=n) (st:=t) (rl:=u) (nw:=by unfold aW aY6;simp[b]) (tl:=λ_=> .inr (aY7 cq8 λd h=>by rw[a];exact e h.2.1 d h.2.2.1 h.2.2.2))
theorem aJ8(H:x.ae=(25:Nat)){c:Case}(Q:x.aH[x.k.toNat]?=(n:Int))(R:(aP x).cases[n]?=c)(S:¬pP w c.ch)(m:W.gs=w.gs)(t:W.aO=w.aO)(u:W.ef=w.ef)(v:∀(c:Nat) r,w.au[c]?=some r->W.au[c]?=r\/aL x ((c:Int)+1))(A:W.ah=w.ah)(B:W.done=w.done)(D:W.ax=w.ax)(p:W.av=w.av)(E:W.UB=w.UB)(F:w.au<=W.au.length)(h:j3 W g (aP x)=w'):aH2 w w' g x:=by
 have G:=bY2;obtain⟨T,s2,L⟩:=bY3;have U:=bT2;have M:=((pj I hx oX).2).cl;have i:W.gs[g]?=x:=by rw[m];exact hx
 have l:∀(j:Nat) (e:Int) (f:Case),x.aH[j]?=some e->(aP x).cases[e.toNat]?=some f->(j:Int)<=x.k->¬pP w f.ch:=λj e f a b d=>by
  by_cases X:(j:Int)<x.k
  .grind [G2.nc,aN2]
  grind
 unfold j3 at h;simp only[i,bW,eN]at h;split at h
 .cases h
 split at h
 .cases h;refine aH3 I J hx {x with k:=x.k+1} 25 25 (e1:=by show W.gs.set g _=_;rw[m]) (e2:=t) (e3:=u) (e4:=v) (e5:=A) (e6:=B) (e9:=E) (e7:=D) (st:=p) (rl:=F) (hn':=H) (hc:=λh=>ck9) (nc:=λN h=>?_) (eU:=λh=>ck1) (cl:=λc h=>aX h.1 ci9)
  obtain⟨_,_,j,e,f,a,b,rfl,K⟩:=(aN2 (by exact hk)).1 h;simp only at K;exact l j e f a b oX
 rename_i Y;split at h
 .unfold te at h;rw[qK (di (x:=x) {x with k:=x.k+1} i),cY]at h
  cases h;exact aP1 I J hx hk H {aJ:=2,case:= -1} 0 sX sX (by show W.gs.set g _=_;rw[m,show(W.ay g {x with k:=x.k+1}).av=w.av from p];rfl) t u v A B D E p F
 cases h;refine aH3 I J hx {x with bA:=List.replicate (aP x).cases.length (-1),k:=0,ae:=28} 25 28 (ow:=λs sd h=>(by rcases h with⟨a,_⟩|⟨_,_,b,_⟩;exact aX hk a;rw[L.none_ oX]at b;simp at b)) (sh:=λh=>⟨h.1,h.2.1,by have:=M;simp;omega⟩) (e1:=by show W.gs.set g _=_;rw[m]) (e2:=t) (e3:=u) (e4:=v) (e5:=A) (e6:=B) (e9:=E) (e7:=D) (st:=p) (rl:=F) (nc:=λN h=>?_)
 obtain⟨_,_,j,e,f,a,b,rfl,K⟩:=(aN2 (by exact hk)).1 h;have O:x.aH[j]?=some e:=a;have:=um O;exact l j e f a b oX
end
theorem aU0(a:(aP x).ai=9)(b:25<=x.ae/\x.ae<=27)(d:x'.ops=x.ops)(e:x'.at_=x.at_)(f:x'.aH=x.aH)(i:x'.k=x.k)(h:x'.ae<28)(c:Int)(j:aH0 x' c):aH0 x c:=by
 grind [oM,aN2]
section
variable(I:Inv w ls)(J:Inv2 w)(hx:w.gs[g]?=x)
include I J hx
theorem aK7(m:Na w g)(hk:(aP x).ai=9)(j:x.ae=(25:Nat))(b:Y∈x.aq){kk:Int}(k:kk=2*Y-2\/kk=2*Y-1):Mach.take w g kk 26 27=(w,false)/\w.ef.len kk<=0\/∃c,Mach.take w g kk 26 27=(c,true)/\∀w',eH c g=some w'->aH2 w w' g x:=by
 have L:=bT4;obtain⟨d,s2,E⟩:=bT1;have f:=bT2;obtain⟨i,F,n,G,H,K,M,N,O,Q⟩:=oq I hx d f;rcases zq I hx m hk j b k with e|⟨c,e,_⟩
 .exact .inl ⟨e,KH I (by have:=I.c8;have:=d.lk Y b;omega) e⟩
 refine .inr ⟨c,e,λw' a=>?_⟩;rcases aO7 I J hx cp0 (by unfold bm;omega) (Ca oX) oX (d.lk Y b) (KA hk oX b) k 26 27 25 j oX (λx' p r u v R Y b=>aU0 hk oX p r u v oX Y b) cl0 cl0 e with t|⟨s,rfl,t⟩|⟨A,B,D,l,t⟩
 .cases t.1
 .unfold eH at a;simp only[mH hx,bW,eN]at a;rw[aE sX]at a
  cases a;exact t
 unfold eH at a;rw[n]at l;simp only[B,l,bW,eN]at a;rw[aF (show A.ae=27 from D)]at a
 cases a;exact t _
theorem aR5(hk:(aP x).ai=9)(b:x.ae=(26:Nat))(h:(rD w g 25 27).bind (eH · g)=w'):aH2 w w' g x:=by
 have L:=bT4;obtain⟨d,s2,u⟩:=bT1;have a:=bT2;obtain⟨i,v,A,B,D,E,F,G,H,K⟩:=oq I hx d a;obtain⟨M,e,N⟩:=cI.1 h;rcases aQ7 I J hx cp0 (.inr (.inl b)) (Ca oX) oX 25 27 26 b oX (λx' f j k l O c m=>aU0 hk oX f j k l oX c m) cl0 cl0 e with⟨n,p,r,t⟩|⟨n,p,r,Q,t⟩
 .grind [eH]
 grind [eH]
theorem aS8(A:Na w g)(hk:(aP x).ai=9)(f:x.ae=(25:Nat))(h:uE w g (aP x)=w'):aH2 w w' g x:=by
 have L:=bT4;obtain⟨s1,s2,s3⟩:=bT1;have kE:=bT2;obtain⟨i,c,B,D,N,E,F,G,n,Dn⟩:=bU1;obtain⟨b,l,cR⟩:=Fs I ⟨F,G⟩;obtain⟨hm,r,H,ok⟩:=gz I ⟨F,G⟩;have hh:=KA hk oX n;have aP2:∀p:Ring,∀(c1:Nat) r,w.au[c1]?=some r->(w.dZ (c.ch-1).toNat p).au[c1]?=some r\/aL x ((c1:Int)+1):=λp=>aJ3 (w:=w) (c0:=(c.ch-1).toNat) (r':=p) (x:=x) cv8
 have r9:∀(W:Wd),W.gs=w.gs->W.aO=w.aO->W.ef=w.ef->(∀(c:Nat) r,w.au[c]?=some r->W.au[c]?=some r\/aL x ((c:Int)+1))->W.ah=w.ah->W.done=w.done->W.ax=w.ax->W.av=w.av->W.UB=w.UB->w.au.length<=W.au.length->∀(a:nP) w',a.aJ≠0->a.case=i->(a.aJ=1->(c.cF=false/\a.ok=false)\/w.ef.len (Uj c.cF c.ch)<=0)->te W g a=some w'->aH2 w w' g x:=by
  intro W K O Q R S T U M X Y a w' Z t a0 h;unfold te at h;rw[qK (x:=x) (by rw[K];exact hx)]at h
  cases h;refine aP1 I J hx hk f a 0 Z (λB d m he=>?_) (by show W.gs.set g _=_;rw[K,M];rfl) O Q R S T U X M Y;have e:d=c:=by rw[t]at m;unfold Xq at m;rw[aE oX,aE oX,aF hk]at m;unfold idx at m;grind
  grind
 unfold uE at h;simp only[hx,B,N,bW,eN]at h
 cases Ar:c.cF with
 |true=>
  simp only[Ar,dt]at h;unfold j4 at h;simp only[l,bW,eN]at h
  cases b with
  |true=>
   grind
  |false=>
   have u:¬pP w c.ch:=λh=>by unfold pP at h;rw[l]at h;cases h
   simp only[nW,dF]at h;rcases aK7 I J hx A hk f n (kk:=2*c.ch-2) (.inl rfl)with⟨j,RT⟩|⟨w1,j,t1⟩
   .simp only[j,eN,nW,dF,aH8,H,bW]at h
    cases k:(r.put c.v).2 with
    |true=>
     simp only[k,dt,eN,nW,dF]at h;exact r9 (w.dZ (c.ch-1).toNat (r.put c.v).1) ii ii ii (aP2 _) ii ii ii ii ii cw3 _ _ sX ii (λ_=> .inr (by rw[Ar];exact RT)) h
    |false=>
     simp only[k,nW,dF,eN]at h;exact aJ8 (W:=(w.dZ (c.ch-1).toNat (r.put c.v).1)) I J hx hk f D E u ii ii ii (aP2 _) ii ii ii ii ii cw3 h
   grind
 |false=>
  simp only[Ar,nW,dF]at h;unfold j5 at h;rcases aK7 I J hx A hk f n (kk:=2*c.ch-1) (.inr rfl)with⟨j,RT⟩|⟨w1,j,t1⟩
  .simp only[j,eN,nW,dF,getRing,H,bW]at h
   cases k:r.get.2.2 with
   |true=>
    simp only[k,dt,eN,nW,dF]at h;exact cd7
   |false=>
    have ff:idx (w.dZ (c.ch-1).toNat r.get.1).aO (c.ch-1)=b:=l;simp only[k,nW,dF,ff,eN]at h
    cases b with
    |true=>
     simp only[dt,eN,nW,dF]at h;exact cd7
    |false=>
     have u:¬pP w c.ch:=λh=>by unfold pP at h;rw[l]at h;cases h
     simp only[nW,dF,eN]at h;exact aJ8 (W:=(w.dZ (c.ch-1).toNat r.get.1)) I J hx hk f D E u ii ii ii (aP2 _) ii ii ii ii ii cw3 h
  grind
theorem aN3(f:Na w g)(hk:(aP x).ai=9)(d:x.ae=(27:Nat))(h:jJ w g (aP x)=w'):aH2 w w' g x:=by
 have L:=bT4;obtain⟨s1,s2,E⟩:=bT1;have kE:=bT2;obtain⟨i,c,j,b,k,G,l,m,n,H⟩:=bU1;obtain⟨s,ON⟩:=pz (L.br (.inl (.inr d)));obtain⟨z,sd,y,q',d1,d2,d3,d4,d5,d6,F⟩:=aK6 I J hx f (.inr d) ON;have p:nat? x.br=s:=cr9
 have K:=I.sj hx;have hh:=KA hk oX n;obtain⟨t,r,u,M⟩:=gz I ⟨l,m⟩;unfold jJ at h;simp only[hx,j,p,k,d1,bW,eN]at h
 cases e:c.cF with
 |true=>
  simp only[e,dt,d2,eN]at h;rw[mZ (w:=({w with ef:=q'}:Wd).cJ s {sd with v:=c.v}) (z:=z) (y:=y) (sd:={sd with v:=c.v}) hx (qN d2) d3 d5 d4 oX]at h;simp only[eN]at h;rw[qK (x:={x with OK:=x.OK++[(z:Int)],br:= -1}) (di (x:=x) _ cn3),cY]at h
  cases h;exact F (sd':={sd with v:=c.v,done:=true}) {aJ:=1,case:=i,ok:=true,v:=0} x.aq.length 30 sX (.inr rfl) ii (by simp[Wd.ay,Wd.cJ]) ⟨ii,ii,ii,ii,ii⟩ ii ii ii ii ii (λ_ _ h=> .inl h) ii cG (aT4 27 30)
 |false=>
  simp only[e,nW,dF,cI]at h;obtain⟨⟨W,v⟩,a,N,b,h⟩:=h;have A:cZ ({w with ef:=q'}:Wd) c.ch=true:=t;have B:kq ({w with ef:=q'}:Wd) c.ch=some ((c.ch-1).toNat,r):=u;unfold ik at a;simp only[A,B,d2,aH6,dF,bW,eN]at a
  have D:W.gs=w.gs/\W.ah=w.ah/\W.ef=q'/\W.aO=w.aO/\W.ax=w.ax/\W.done=w.done/\W.UB=w.UB/\(∀(c:Nat) r,w.au[c]?=some r->W.au[c]?=some r\/aL x ((c:Int)+1))/\W.av=w.av/\w.au.length<=W.au.length:=by
   split at a
   .grind
   cases a;exact⟨ii,ii,ii,ii,ii,ii,ii,aJ3 (w:=w) cv8,ii,cw3⟩
  obtain⟨f1,f2,f3,f4,f5,f6,f8,f7,f9,f10⟩:=D;rw[mZ (w:=W) (z:=z) (y:=y) (sd:=sd) (x:=x) (by rw[f1];exact hx) (by rw[f2];exact d2) d3 (by rw[f1];exact d5) d4 oX]at b
  cases b;rw[qK (x:={x with OK:=x.OK++[(z:Int)],br:= -1}) (di (x:=x) _ cw6),cY]at h
  cases h;exact F (sd':={sd with done:=true}) {aJ:=1,case:=i,ok:=true,v:=v} x.aq.length 30 sX (.inr rfl) (by rw[<-f1];rfl) (by rw[<-f2];rfl) ⟨ii,ii,ii,ii,ii⟩ f3 f4 f5 f6 f8 f7 f9 f10 (aT4 27 30)
end
theorem aS9(a:(aP x).ai=9)(b:28<=x.ae/\x.ae<=29)(d:x'.ops=x.ops)(e:x'.at_=x.at_)(f:x'.aH=x.aH)(c:Int)(h:aH0 x' c):aH0 x c:=by
 grind [oM,aN2]
section
variable(I:Inv w ls)(J:Inv2 w)(hx:w.gs[g]?=x)
include I J hx
theorem aL6(hk:(aP x).ai=9)(r:x.ae=(28:Nat))(h:ju w g (aP x)=w'):aH2 w w' g x:=by
 have L:=bT4;obtain⟨s1,s2,B⟩:=bT1;have kE:=bT2;obtain⟨i,c,D,E,F,G,O,Q,R,H⟩:=bU1;have hg:g<w.gs.length:=um hx;have t:i<x.bA.length:=by grind [nm.len]
 unfold ju at h;simp only[hx,bW,eN]at h
 cases eK:(w.Eg.take g).2.2 with
 |true=>
  obtain⟨j,u,K,l,_,A⟩:=bV7;simp only[eK,aH6,dF,D,F,K,eQ,l,IY t,H,eN]at h;have t1:=aK1 (w':=(({w with Eg:=(w.Eg.take g).1}:Wd).cJ j {cK:=true,g:=g,ch:=c.ch,case:=i,cF:=c.cF,v:=c.v})) (g:=g) I l (λf=>aX f λf=>A g x hx u l f) ii;have t2:=aK2 (w':=(({w with Eg:=(w.Eg.take g).1}:Wd).cJ j {cK:=true,g:=g,ch:=c.ch,case:=i,cF:=c.cF,v:=c.v})) (g:=g) (x:=x) l (λf=>aX f λf=>A g x hx u l f) ii;have p:=B.more r x.k.toNat i oX E;rw[oU]at p
  have m:∀(x':bI),aP x'=aP x->x'.bA=x.bA.set i j->∀(s:Nat) sd',(w.ah.set j {cK:=true,g:=g,ch:=c.ch,case:=i,cF:=c.cF,v:=c.v})[s]?=some sd'->sd'.cK=true->(∃sd,w.ah[s]?=some sd/\sd.cK=true/\sd'.g=sd.g/\sd'.case=sd.case/\sd'.ch=sd.ch/\sd'.cF=sd.cF/\(sd.g=g->eP x s sd->eP x' s sd'))\/sd'.g=g/\eP x' s sd':=by
   intro x' eg M s sd' n f;by_cases e:j=s
   .subst e;rw[aZ3 l]at n;cases n;exact .inr ⟨ii,.inr ⟨cw5,ci9,by rw[M];simp only[oU];exact nH t,c,by rw[eg];simpa using G,ii,ii⟩⟩
   rw[oA e]at n;refine .inl ⟨sd',n,f,ii,ii,ii,ii,λ_ N=>?_⟩;rcases N with⟨a,_⟩|⟨_,a,b,d⟩
   .exact aX hk a
   refine .inr ⟨cw5,a,?_,by rw[eg];exact d⟩;grind
  by_cases f:(x.aH.length:Int)<=x.k+1
  .simp only[aF f]at h
   cases h;exact Own.pR (x':={x with bA:=x.bA.set i j,k:=0,ae:=29}) {hx:=hx,lv:=m _ ii ii,io:=λ_ h=>aX ((J.g2 g x hx).early h) co6,io2:=λ_ _ j i s h=>aX h ci9,ow:=λ_ h=>aX (L.cO hk oX).2.1 h,s1:=t1,s2:=t2,g2:=G2.aK5 I J hx cp0 ii ii ii (aS9 hk oX ii ii ii) sX (λh=>⟨h.1,h.2.1,by simpa using h.2.2⟩),Yu:=aI4 28 29}
  .simp only[aE f]at h
   cases h;exact Own.pR (x':={x with bA:=x.bA.set i j,k:=x.k+1}) {hx:=hx,lv:=m _ ii ii,io:=λ_ h=>aX ((J.g2 g x hx).early h) co6,s1:=t1,s2:=t2,a4:=(λh=>ck9),g2:=G2.aK5 I J hx cp0 ii ii ii (aS9 hk oX ii ii ii) ⟨ci9,λh=>ck1⟩ (λh=>⟨h.1,h.2.1,by simpa using h.2.2⟩),Yu:=aI4 28 28 (h':=r)}
 |false=>
  simp only[eK,dt]at h
  cases h;exact aH3 I J hx {x with res:={x.res with aJ:=6},k:=x.aq.length,ae:=30} 28 30
theorem aK8(hk:(aP x).ai=9)(A:x.ae=(29:Nat))(h:gK w g (aP x)=w'):aH2 w w' g x:=by
 have L:=bT4;have G:=bY2;obtain⟨s1,s2,s3⟩:=bT1;have kE:=bT2;obtain⟨i,c,K,h2,f,h4,Y,Z,h7,M⟩:=bU1;have N:=I.c8;obtain⟨v,hv,O⟩:=bU2;rw[oU]at hv;have Q:idx x.bA i=v:=cy0
 have R:¬pP w c.ch:=G.nc _ ((aN2 hk).2 ⟨oX,oX,_,_,c,h2,cw8,ii,.inl oX⟩);unfold gK at h;simp only[hx,K,f,Q,bW,eN,M,aH6,dF,cI]at h;obtain⟨w1,S,h⟩:=h;obtain⟨q',rfl,T,p2,B,p4⟩:=aO3 S;have D:∀k:Int,q'.len k<=w.ef.len k\/¬pP w (k / 2+1)/\aL x (k / 2+1):=λk=>(T k).imp id λe=>by rw[show k / 2+1=c.ch by rw[e];(split<;>omega)];grind [KA]
 have U:=J.stp;obtain⟨n,X⟩:=pz O;have E:JP q' n:=by obtain⟨sd,a,_⟩:=I.bA g x i n hx (by rw[hv,X]);grind [Inv.aS,bf8]
 have p:¬aw0 x:=co6
 have r:x.bJ=0:=ww λh=>p (G.early h)
 by_cases F:(x.aH.length:Int)<=x.k+1
 .simp only[aF F]at h
  cases h;have t:=L.BE hk oX;refine Own.pR (x':={x with bJ:=w.av,k:=x.aq.length,ae:=30}) {hx:=hx,aw:=λ_=> .inl (.inr ⟨hk,.inr (.inl ⟨ii,t⟩)⟩),tl:=λh=>aX h (by unfold told;simp[t]),tu:=.inr (.inr ⟨oX,sX,ii,ii,ii,.inr rfl,.inl rfl⟩),ar:=λ_=> .inr rfl,iq:=λs sd h _=> .inl (B s h),io:=λl _ s b=>?_,q:=D,g2:=⟨λc h=>aX h (aI2 sX c),λ_ h=>cj5,λ_=> .inr ⟨hk,.inl ⟨ii,t⟩⟩,G.par,λc h=>aX h.1 sX,G.sh⟩,Yu:=aI4 29 30}
  right;rcases b with b|⟨d,b⟩
  .have b:x.bY=s:=b;grind [Loc.tI]
  have b:x.bA[d]?=some (s:Int):=b;obtain⟨u,m⟩:=ae3.1 (s3.own d s b oX).2;have dD:=um m;by_cases H:(u:Int)<x.k
  .exact .inl ⟨A,l,u,d,H,m,by simpa using b⟩
  right;rw[show u=x.k.toNat by omega,h2]at m;have:i=d:=by have:=mx m;omega
  subst this;rw[hv]at b;obtain rfl:n=s:=by have:=mx b;omega
  exact E
 simp only[aE F]at h
 cases h;refine Own.pR (x':={x with k:=x.k+1}) {hx:=hx,iq:=λs sd h _=> .inl (B s h),io2:=λ_ l j d s b f h4=>?_,q:=D,a4:=(λh=>ck9),g2:=⟨λc h=>G.nc c (aS9 (x':={x with k:=x.k+1}) hk oX ii ii ii c h),λ_ h=>ck1,λh=>aX r h,G.par,λc h=>aX h.1 ci9,G.sh⟩,Yu:=aI4 29 29 (h':=A)}
 have f:x.aH[j]?=some d:=f;have h4:x.bA[d.toNat]?=some (s:Int):=h4;have b:(j:Int)<x.k+1:=b;by_cases H:(j:Int)<x.k
 .grind
 right;rw[show j=x.k.toNat by omega,h2]at f
 cases f;rw[oU,hv]at h4;obtain rfl:n=s:=by have:=mx h4;omega
 exact E
theorem aN4(hk:(aP x).ai=9)(i:x.ae=(30:Nat))(h:iH w g=w'):aH2 w w' g x:=by
 have L:=bT4;have G:=bY2;obtain⟨j,s2,D⟩:=bT1;have m:=bT3;obtain⟨l,E,F,H,n⟩:=tq I hx j m;unfold iH at h;simp only[n,bW,eN]at h;by_cases K:1<x.k
 .have f:decide (x.k-1<=0)=false:=by simp;omega
  rw[f]at h;simp only[dt]at h
  cases h;exact Own.pR (x':={x with k:=x.k-1}) {hx:=hx,g2:=G.keep ii ii ii (λ_ _=>rfl) (λh=>h) ci9,Yu:=aI4 30 30 (h':=i) (p:=cq4)}
 have M:x.k=1:=oX
 have f:decide (x.k-1<=0)=true:=ci8
 rw[f]at h;simp only[aH6,dF]at h;have r:((free w (l-1) g).ay g {x with k:=x.k-1}).gs[g]?=some {x with k:=x.k-1}:=di (x:=x) _ hx;rw[qK r,cY]at h
 cases h;have u:x.k-1=0:=oX
 have v:∀p:Nat,(p=13/\x.res.aJ=0\/(p=34\/p=17\/p=18)/\x.res.aJ≠0)->aH2 w ((free w (l-1) g).ay g {x with k:=x.k-1,ae:=p}) g x:=by
  intro p d;have N:(p:Int)=13\/(p:Int)=34\/(p:Int)=17\/(p:Int)=18:=oX
  refine Own.pR (x':={x with k:=x.k-1,ae:=p}) {hx:=hx,aw:=λh=>d.elim (λe=> .inl (.inr ⟨hk,.inr (.inr (.inl ci9))⟩)) (λe=> .inr (.inr (.inl ⟨by unfold aW;omega,h,ii⟩))),tl:=λh=> .inl ⟨by unfold told at*;simp only at h;omega,ii,ii⟩,ow:=λh _=> .inr ⟨by unfold aW at h ⊢;simp only at h;omega,ii,ii,λt a b=>⟨t,a,b.imp id λh=>oX⟩⟩,a4:=(λh=>ck9),g2:=⟨λc h=>aX h (aI2 ci9 c),λ_ h=>ck1,λO=> .inr ⟨hk,ci9⟩,G.par,λc h=>aX h.1 ci9,G.sh⟩,Yu:= ?_};have:=aO6 (x:=x) (x':={x with k:=x.k-1,ae:=p}) 30 p i ii ii ii ⟨oX,oX⟩ (a:=1) (b:=0) (by rcases d with⟨rfl,_⟩|⟨rfl|rfl|rfl,_⟩<;>simp only[pQ]<;>omega);show V.Yu {x with k:=x.k-1,ae:=p}+Rn w.ax+3*Xr w.ef+1<=_;omega
 have A:fG {x with k:=x.k-1}=fG x:=rfl;simp only[A];unfold fG aP8;by_cases B:x.res.aJ=0
 .simp_all
 simp only[aE B];split
 .simp_all
 split
 .simp_all
 simp_all
theorem aR6(n:Na w g)(p:(aP x).ai=9)(r:x.ae=(14:Nat))(h:uF w g=w'):aH2 w w' g x:=by
 obtain⟨s,sd,j,l,D,E,t,F⟩:=I.Wr hx n r;have u:nat? x.aN=some s:=by rw[j];exact eQ s
 unfold uF at h;simp only[hx,u,l,bW,eN]at h
 cases h;have G:=bY2;refine Own.pR (x':={x with res:=mK sd,aN:= -1,k:=0,ae:=31}) {hx:=hx,aw:=λ_=> .inr (.inr (.inr ⟨oX,ii⟩)),pk:=λh=> .inr ⟨h.imp id λh=>aX h sX,ii⟩,tl:=λ_=> .inr (aY7 cq8 λd v=>?_),g2:=⟨λc h=>aX h (aI2 sX c),λ_ h=>cj5,λ_=> .inr ⟨p,sX⟩,λs h=>ck1,λc h=>aX h.1 sX,G.sh⟩,Yu:=aI4 14 31}
 exfalso;obtain⟨m,e,f,i⟩:=v;have m:x.bF<0:=m;rcases G.par s j with h|⟨H,a,b⟩
 .omega
 rw[l]at a;cases a;obtain⟨_,K,_,A,L,M,N⟩:(aP x).ai=9/\0<=sd.case/\x.bA[sd.case.toNat]?=some (s:Int)/\∃c,(aP x).cases[sd.case.toNat]?=some c/\sd.ch=c.ch/\sd.cF=c.cF:=by rcases t with⟨h,_⟩|h;all_goals grind
 have f:Xq (aP x) x.fire=some d:=f;have e:(mK sd).aJ=1:=e;have i:d.cF=false->(mK sd).ok=true:=i;have B:d=A:=by unfold Xq idx at f;grind
 subst B;unfold mK at e i;grind
theorem aT0(hk:(aP x).ai=9)(b:x.ae=(32:Nat))(h:uG w g=w'):aH2 w w' g x:=by
 have L:=bT4;have G:=bY2;obtain⟨s1,s2,s3⟩:=bT1;have kE:=bT2;obtain⟨i,c,n,h2,E,F,H,K,M,p⟩:=bU1;obtain⟨v,hv,r⟩:=bU2;obtain⟨s,A⟩:=pz r;subst A;rw[oU]at hv;obtain⟨sd,a,N,d,O,Q⟩:=I.bA g x i s hx hv;have B:idx x.bA i=(s:Int):=cy0
 unfold uG at h;simp only[hx,n,B,bW,eN,p,aH6,dF,cI]at h;obtain⟨R,D,h⟩:=h;obtain⟨q',rfl,f,S,_,j⟩:=aJ2 I (um a) ii D;have l:=(L.aR hk).2 (.inr b);by_cases m:(x.aH.length:Int)<=x.k+1
 .simp only[aF m]at h
  cases h;exact Own.pR (x':={x with k:=x.aq.length,ae:=33}) {hx:=hx,iq:=λt u f1 f2=>(az3 (t=s)).elim (λe=> .inr ⟨g,_,by subst e;rw[a]at f2;cases f2;exact d,di (x:=x) _ hx,.inr l⟩) λe=> .inl (j t e f1),q:=λk=> .inl (f k),g2:=G.keep ii ii ii (λ_ _=>rfl) (λ_=> .inr ⟨hk,sX⟩) sX,Yu:=aI4 32 33}
 simp only[aE m]at h
 cases h;exact Own.pR (x':={x with k:=x.k+1}) {hx:=hx,iq:=λt u f1 f2=>(az3 (t=s)).elim (λe=> .inr ⟨g,_,by subst e;rw[a]at f2;cases f2;exact d,di (x:=x) _ hx,.inr l⟩) λe=> .inl (j t e f1),q:=λk=> .inl (f k),a4:=(λh=>ck9),g2:=G.keep ii ii ii (λ_ _=>rfl) (λh=>h) ci9,Yu:=aI4 32 32 (h':=b)}
theorem aN5(hk:(aP x).ai=9)(b:x.ae=(33:Nat))(h:((Ys w g).bind λp=>if p.2 then yes (Gt p.1 g 34)else some (p.1,true))=(w',true)):aH2 w w' g x:=by
 have L:=bT4;have G:=bY2;obtain⟨c,s2,i⟩:=bT1;have d:=bT3;obtain⟨l,j,m,n,e⟩:=tq I hx c d;simp only[e,bW,eN]at h;by_cases r:1<x.k
 .have a:decide (x.k-1<=0)=false:=by simp;omega
  rw[a]at h;simp only[nW,dF]at h
  cases h;exact Own.pR (x':={x with k:=x.k-1}) {hx:=hx,a4:=(λh=>ck9),g2:=G.keep ii ii ii (λ_ _=>rfl) (λh=>h) ci9,Yu:=aI4 33 33 (h':=b) (p:=cq4)}
 have t:x.k=1:=oX
 have a:decide (x.k-1<=0)=true:=ci8
 rw[a]at h;have f:((free w (l-1) g).ay g {x with k:=x.k-1}).gs[g]?=some {x with k:=x.k-1}:=di (x:=x) _ hx;simp only[dt,yes]at h;rw[aX9 f,cY]at h
 cases h;exact Own.pR (x':={x with k:=x.k-1,ae:=34}) {hx:=hx,g2:=G.keep ii ii ii (λ_ _=>rfl) (λ_=> .inr ⟨hk,sX⟩) sX,Yu:=aI4 33 34 (p:=cq4)}
theorem aN6(hk:(aP x).ai=9)(Z:x.ae=(34:Nat))(h:jK w g=w'):aH2 w w' g x:=by
 have L:=bT4;have G:=bY2;obtain⟨s1,s2,s3⟩:=bT1;have kE:=bT2;obtain⟨i,c,h1,h2,h3,h4,h5,h6,h7,Dn⟩:=bU1;have F:¬aW x:=uy oX;have FM:i<x.bA.length:=by grind [nm.len]
 have oE:=L.aN.2 F;obtain⟨v,hv⟩:∃v,x.bA[i]?=some v:=⟨_,fv FM⟩;have ei:idx x.bA i=some v:=cy0
 unfold jK at h;simp only[hx,h1,ei,bW,eN,IY FM,Dn,aH6,dF]at h
 obtain⟨l,jk,h⟩:∃l:Wd,(l.gs=w.gs/\l.aO=w.aO/\l.ef=w.ef/\l.au=w.au/\l.ax=w.ax/\l.done=w.done/\l.UB=w.UB/\l.av=w.av/\(∀(t:Nat) u,l.ah[t]?=some u->u.cK=true->w.ah[t]?=some u/\(t:Int)≠v)/\(∀(j:Nat) y (s:Nat) sd,j≠g->w.gs[j]?=some y->y.aN=(s:Int)->w.ah[s]?=some sd->l.ah[s]?=some sd)/\(∀(s:Nat) sd,w.ah[s]?=some sd->sd.cK=true->sd.g≠g\/aW x->∃sd',l.ah[s]?=some sd'/\sd'.g=sd.g))/\
   some (l.ay g (if(x.aH.length:Int)<=x.k+1 then{x with k:=0,bA:=[],ae:=aP8 x}else{x with bA:=x.bA.set i (-1),k:=x.k+1}))=w':=by
  by_cases D:v= -1
  .rw[aF D]at h;exact⟨w,⟨ii,ii,ii,ii,ii,ii,ii,ii,λt u h _=>⟨h,oX⟩,λ_ _ _ _ _ _ _ h=>h,λ_ sd h _ _=>⟨sd,h,ii⟩⟩,h⟩
  rw[aE D]at h;simp only[cI]at h;obtain⟨l,⟨j,E,_,_,hw⟩,h⟩:=h
  cases hw;have H:v=j:=by unfold nat? at E;split at E<;>simp at E;omega
  subst H;obtain⟨sd,K,a2,a3,a4,a5⟩:=I.bA g x i j hx hv;exact⟨({w with Eg:=(w.Eg.nh g (j:Int)).1}:Wd).cJ j {},⟨ii,ii,ii,ii,ii,ii,ii,ii,λt u h p=>(by have h:(w.ah.set j {})[t]?=some u:=h;by_cases e:j=t;subst e;rw[aZ3 K]at h;cases h;cases p;rw[oA e]at h;exact⟨h,oX⟩),aK1 (sd':={}) I K (λ_ j u hu E e=>oX) ii,aK2 (sd':={}) K (λ_ e=>by rcases e with e|e;exact aX a3 e;exact aX e F) ii⟩,h⟩
 obtain⟨f1,f2,f3,f4,f5,f6,f9,f10,f11,f7,f8⟩:=jk
 have B:∀(x':bI) (n:Nat),x'.ae=n->(n=34\/n=17\/n=18)->x'.ops=x.ops->x'.at_=x.at_->x'.bJ=x.bJ->x'.aN=x.aN->x'.bF=x.bF->x'.fire=x.fire->x'.res=x.res->(∀(s:Nat),aZ1 x' s->aZ1 x s)->(∀(t:Nat) sd,eP x t sd->(t:Int)≠v->eP x' t sd)->qu x' g 0=qu x g 0/\x'.aH=x.aH/\x'.OK=x.OK/\x'.aR=x.aR->(KO x.aH x.aq x.bA->KO x'.aH x'.aq x'.bA)->pQ n x'.aH x'.aq x'.k.toNat+x'.OK.length+1<=pQ 34 x.aH x.aq x.k.toNat+x.OK.length->aH2 w (l.ay g x') g x:=by
  intro x' n hn a0 M e1 e2 e3 e4 e5 e6 e7 e8 ⟨N,Lj,O,Q⟩ Wx XR;have A:x'.lQ=x.lQ:=congrArg Ex.lQ N;have R:x'.call=x.call:=congrArg Ex.call N;have eg:=oM M e1;refine Own.pR (x':=x') {hx:=hx,gs:=by show l.gs.set g x'=_;rw[f1],ops:=M,c1:=λc h=>(aI1 f2 c).2 h,c2:=λc h=> .inl ((aI1 f2 c).1 h),q:=λk=> .inl (by show l.ef.len k<=_;rw[f3];exact ae1 _),r:=λc r h=> .inl (by show l.au[c]?=_;rw[f4];exact h),s1:=f7,s2:=f8,wi:=.inl ⟨e4,A⟩,a4:=λh=>ck8,dn:=λd h=> .inl (by rw[<-f6];exact h),ds:=f9,st:=f10,rl:=(by show w.au.length<=l.au.length;rw[f4];exact rx _),tl:=λ_=> .inl ⟨by unfold told;omega,N,eg⟩,tu:=.inr (.inr ⟨oX,oX,eg,R,Lj,.inl e2,.inl A⟩),iq:=λs sd h _=> .inl (by show JP l.ef s;rw[f3];exact h),io:=λh1 h2 s h3=> .inl ⟨oX,oX,e7 s h3⟩,io2:=λh=>oX,pk:=λh=> .inr ⟨by rw[<-Q,<-e3];exact h,A⟩,zp:=λh=>by unfold Ra at h;omega,ar:=λh=>by unfold aY6 at h;omega,aw:=λh=> .inr (.inr (.inl ⟨F,oX,A⟩)),wk:=λz h=> .inl (by rw[O];exact h),bn:=λj t _ h=>⟨t,by show l.ax[j]?=_;rw[f5];exact h,id⟩,ow:=λh=>by unfold aW at h;omega,n9:=λh=>oX,lv:=λt u h p=> .inl ⟨u,(f11 t u h p).1,p,ii,ii,ii,ii,λ_ S=>e8 t u S (f11 t u h p).2⟩,g2:= ?_,Yu:= ?_}
  .exact G.keep e2 e3 e4 (λs h=>oX) (λ_=> .inr ⟨cw5,oX⟩) oX oX Wx
  have:=aO6 (x:=x) (x':=x') 34 n Z hn M e1 ⟨oX,oX⟩ (a:=1) (b:=0) XR;show V.Yu x'+Rn l.ax+3*Xr l.ef+1<=_;rw[f3,f5];omega
 have kK:(x.aH.length:Int)<=x.k+1->∀(t:Nat) sd,eP x t sd->(t:Int)≠v->False:=λp t sd S cM=>by
  rcases S with⟨a,_⟩|⟨_,a,b,_⟩
  .exact aX hk a
  obtain⟨j',T⟩:=ae3.1 (s3.own _ t b oX).2;have dD:=um T;by_cases Zm:(j':Int)<x.k
  .grind [nm.back,Int.toNat_natCast]
  rw[show j'=x.k.toNat by omega,h2]at T;have e:i=sd.case.toNat:=by have:=mx T;omega
  grind
 have U:∀(x':bI),x'.bA=x.bA.set i (-1)->x'.bY=x.bY->∀s:Nat,aZ1 x' s->aZ1 x s:=λx' es X s m=>by
  rcases m with m|⟨Y,m⟩
  .exact .inl (by rw[<-X];exact m)
  rw[es]at m;by_cases e:i=Y
  .grind
  rw[oA e]at m;exact .inr ⟨Y,m⟩
 have Mi:∀(x':bI),x'.bA=[]->x'.bY=x.bY->∀s:Nat,aZ1 x' s->aZ1 x s:=λx' es X s m=>by
  rcases m with m|⟨Y,m⟩
  .exact .inl (by rw[<-X];exact m)
  grind
 by_cases p:(x.aH.length:Int)<=x.k+1
 .simp only[aF p]at h
  cases h;unfold aP8;by_cases J0:x.OK=[]
  .simp only[aF J0];exact B _ 18 rfl oX ii ii ii ii ii ii ii (Mi _ ii ii) (λt sd a b=>(kK p t sd a b).elim) ⟨ii,ii,ii,ii⟩ (λh=>⟨h.1,h.2.1,sX⟩) cl0
  simp only[aE J0];exact B _ 17 rfl oX ii ii ii ii ii ii ii (Mi _ ii ii) (λt sd a b=>(kK p t sd a b).elim) ⟨ii,ii,ii,ii⟩ (λh=>⟨h.1,h.2.1,sX⟩) cl0
 simp only[aE p]at h
 cases h;refine B _ 34 Z oX ii ii ii ii ii ii ii (U _ ii ii) (λt sd a b=>?_) ⟨ii,ii,ii,ii⟩ (λh=>⟨h.1,h.2.1,by simpa using h.2.2⟩) cl0;rcases a with⟨a,_⟩|⟨a,d,e,f⟩
 .exact aX hk a
 refine .inr ⟨a,d,?_,f⟩;show(x.bA.set i (-1))[sd.case.toNat]?=_;grind [List.getElem?_set_ne]
end
theorem aT1(a:0<=x.at_)(c:x.at_<x.ops):aH7 (x.ops.drop x.at_.toNat)=cost (aP x)+aH7 (x.ops.drop (x.at_.toNat+1)):=by
 have b:x.at_.toNat<x.ops.length:=oX
 have e:aP x=x.ops[x.at_.toNat]:=by unfold aP idx;rw[aF a,fv b];rfl
 grind [aH7,List.drop_eq_getElem_cons]
section
variable(I:Inv w ls)(J:Inv2 w)(hx:w.gs[g]?=x)(hp:x.ae=0)(ks:x.at_<x.ops)
include I J hx hp ks
theorem aI0(x':bI)(n:Nat)(e1:w'.gs=w.gs.set g x':=by rfl)(G:x'.ae=n:=by rfl)(X:n=1\/n=4\/n=18\/n=19\/n=20\/n=24:=by omega)(v:w'.aO=w.aO:=by rfl)(f:w'.ef=w.ef:=by rfl)(l:w'.au=w.au:=by rfl)(m:w'.ah=w.ah:=by rfl)(A:w'.done=w.done:=by rfl)(e7:Rn w'.ax=Rn w.ax:=by rfl)(e8:∀j,j≠g->w'.ax[j]?=w.ax[j]?:=by exact λ_ _=>rfl)(p:x'.ops=x.ops:=by rfl)(B:x'.at_=x.at_:=by rfl)(b:x'.bJ=0:=by rfl)(H:x'.aN= -1:=by rfl)(K:x'.OK=[]:=by rfl)(M:w'.UB=w.UB:=by rfl)(sh:KO x'.aH x'.aq x'.bA:=by exact⟨wn _,wn _,wn _⟩)(pt:pQ n x'.aH x'.aq x'.k.toNat+1<=cost (aP x):=by(simp only[pQ,bu,cost,aj6];omega))(N:w'.av=w.av:=by rfl)(O:x'.call=w.av:=by rfl)(Q:x'.aR=false:=by rfl)(Y:n=18/\x'.res.aJ≠1/\x'.lQ=w.av\/n≠18/\x'.lQ=0:=by first|exact .inr ⟨by decide,ii⟩|(refine .inl ⟨ii,?_,ii⟩;simp;done))(hin:(aP x).ai≠9/\n≠19\/∀i c,Xq (aP x) i=some c->bf7 x' i->c.ch<1\/w.au<c.ch:=by(refine .inl ⟨?_,?_⟩;assumption;decide)):aH2 w w' g x:=by
 have L:=bT4;have R:=L.JY;have C:=L.begin hp;have D:aP x'=aP x:=oM p B;refine Own.pR (x':=x') {hx:=hx,gs:=e1,ops:=p,c1:=λc h=>(aI1 v c).2 h,c2:=λc h=> .inl ((aI1 v c).1 h),q:=λk=> .inl (by rw[f];exact ae1 _),dr:=λc h=>aX h.1 oX,r:=λc r h=> .inl (by rw[l];exact h),s1:=λ_ _ _ _ _ _ _ h=>by rw[m];exact h,s2:=λ_ sd h _ _=>⟨sd,by rw[m];exact h,ii⟩,wi:=.inr (.inr (uy oX)),a4:=λh=>ck8,dn:=λd h=> .inl (by rw[<-A];exact h),ds:=M,g2:=⟨λc h=>aX h (aI2 oX c),λ_ h=>oX,λh=>aX b h,λs h=>oX,λc h=>aX h.1 oX,sh⟩,Yu:= ?_,st:=N,rl:=(by rw[l];exact rx _),tl:=λh=> .inr (bg7 (by have h:=h;unfold told at h;show x'.res.aJ≠1;omega)),tu:=.inr (.inl ⟨O,b,oX,l,A,λi c E F=>?_⟩),iq:=λs sd h _=> .inl (by rw[f];exact h),io:=λ_ h=>aX b h,io2:=λh=>oX,pk:=λh=>(by rw[Q,H]at h;simp at h),zp:=λh=>(by unfold Ra at h;exact .inr oX),ar:=λh=>by unfold aY6 at h;omega,aw:=λh=>aX b h,nc:=by(unfold aT;omega),wk:=λz h=>(by rw[C.OK]at h;cases h),bn:=λj t S h=>⟨t,by rw[e8 j S];exact h,id⟩,ow:=λh=>by unfold aW at h;omega,n9:=λh=>oX,lv:=λs sd h T=> .inl ⟨sd,by rw[<-m];exact h,T,ii,ii,ii,ii,λ_ U=>?_⟩}
 .have e:V.Yu x'=aH7 (x.ops.drop (x.at_.toNat+1))+pQ n x'.aH x'.aq x'.k.toNat:=by rw[aO5 n G oX,p,B,K];rfl
  have u:V.Yu x=aH7 (x.ops.drop x.at_.toNat)+x.OK.length:=by unfold V.Yu;rw[aF hp]
  rw[e,u,aT1 R.1 ks,f,e7];omega
 .rcases hin with⟨u,Z⟩|u
  .rcases F with h|⟨h,_⟩
   .omega
   rw[D]at h;exact aX h u
  rw[D]at E;exact u i c E F
 rcases U with⟨_,a,_⟩|⟨_,_,a,_⟩
 .have:=C.bY;omega
 rw[C.bA]at a;simp at a
theorem aQ2(n:(aP x).ai≠9)(h:jT w g=w'):aH2 w w' g x:=by
 obtain⟨j,l⟩:=KC I hx ks;have p:=l.k;have d:(w.ay g {bu x with call:=w.av}).gs[g]?=some {bu x with call:=w.av}:=di (x:=x) _ hx;have r:∀y:bI,Rn ({(w.ay g {bu x with call:=w.av})with ax:=(tD (w.ay g {bu x with call:=w.av}).ax g).1}:Wd).ax=Rn w.ax:=λy=>aK4
 unfold jT Gt Nc never Gt fL at h;simp only[hx,bW,eN,j,aE (by omega:¬(x.ops.length:Int)<=x.at_),d,km]at h;by_cases a:(aP x).ai=1\/(aP x).ai=7\/(aP x).ai=8
 .rw[aF a,cY]at h
  cases h;exact aI0 I J hx hp ks {bu x with call:=w.av,ae:=20} 20
 rw[aE a]at h;by_cases f:(aP x).ai=2\/(aP x).ai=3
 .rw[aF f]at h;split at h
  .exact ch4
  rename_i b
  cases h;exact aI0 I J hx hp ks {bu x with call:=w.av,ae:=19} 19 (e1:=cs4) (e7:=aK4) (e8:=λ_ m=>bi5 m) (hin:=.inr λi c a _=>by have e:c.ch=(aP x).ch:=(by unfold Xq at a;grind);rw[e];unfold cZ at b;have b:¬(decide (1<=(aP x).ch)&&decide ((aP x).ch<=w.au.length))=true:=b;simp only[qs,lm]at b;omega)
 rw[aE f]at h;by_cases b:(aP x).ai=4\/(aP x).ai=5
 .rw[aF b]at h;split at h
  .rw[cY]at h;cases h;exact aI0 I J hx hp ks {bu x with call:=w.av,ae:=1} 1
  rw[cY]at h;cases h;exact aI0 I J hx hp ks {bu x with call:=w.av,res:={aJ:=2,case:= -1},lQ:=w.av,ae:=18} 18
 rw[aE b,aF oX]at h;split at h
 .exact ch4
 rw[cY]at h;cases h;exact aI0 I J hx hp ks {bu x with call:=w.av,res:={aJ:=5,case:= -1},lQ:=w.av,ae:=18} 18
end
theorem Gr{α β:Type}{f:α->Option β}:∀{l:List α} {r:List β},l.mapM f=r->r=l.length
 | [],r,h=>by simp at h;subst h;rfl
 |a::l,r,h=>by rw[bI3]at h;simp only[bW,cI,Option.pure_def,oZ]at h;obtain⟨b,_,d,c,rfl⟩:=h;rw[sV,sV,Gr c]
theorem xl(x:Int):∀l:ce,(ji x l).length=l+1
 | []=>rfl
 |y::l=>by
  unfold ji;split
  .rfl
  rw[sV,xl x l];rfl
theorem qX:∀(l out:ce),(l.foldl jL out).length<=out+l
 | [],out=>sX
 |x::l,out=>by rw[bH4];have h:=qX l (jL out x);grind [jL]
theorem Gs(a:ce):(kf a).length<=a:=by
 unfold kf;have h:=qX (a.foldr ji []) []
 have b:(a.foldr ji []).length=a.length:=by
  induction a with
  |nil=>rfl
  |cons x l ih=>rw[List.foldr_cons,xl,ih (qX _ _)];rfl
 simp at h;omega
theorem aR7{b:List (Int×Int)}(a:aT3 w o h=b):b<=h.length:=by
 unfold aT3 at a;obtain⟨l,c,rfl⟩:=aH5.1 a;have:=Gr c;have d:=(qO h h.length).length_eq;grind
theorem mapM_mem{α β:Type}{f:α->Option β}:∀{l:List α} {r:List β},l.mapM f=r->∀a∈l,∃b∈r,f a=b
 | [],r,_,a,e=>by cases e
 |a::l,r,h,v,d=>by
  rw[bI3]at h;simp only[bW,cI,Option.pure_def,oZ]at h;obtain⟨b,j,k,i,rfl⟩:=h;rcases iL.1 d with rfl|d
  .grind
  obtain⟨c,m,n⟩:=mapM_mem i v d;grind
theorem br0{a:ce}{d:List (Int×Int)}(h:aT3 w o a=d)(j:a=o.cases.length){c:Case}(k:idx o.cases Y=c)(m:cZ w c.ch):Y∈d.map (·.1):=by
 unfold aT3 at h;obtain⟨l,f,rfl⟩:=aH5.1 h;have n:0<=Y/\Y.toNat<o.cases.length:=by grind [idx]
 have i:Y∈kB a a.length:=(qO a a.length).mem_iff.2 (by simp;exact⟨Y.toNat,oX,oX⟩);obtain⟨b,p,r⟩:=mapM_mem f Y i;have e:b=(Y,c.ch):=by grind [iF]
 grind
theorem aQ3(I:Inv w ls)(J:Inv2 w)(d:w.gs[g]?=x)(k:x.ae=0)(j:x.at_<x.ops)(K:(aP x).ai=9)(L:0<=w.drawn)(l:kJ w.drawn)(h:jT w g=w'):aH2 w w' g x:=by
 obtain⟨M,D⟩:=KC I d j;have m:(w.ay g {bu x with call:=w.av}).gs[g]?=some {bu x with call:=w.av}:=di (x:=x) _ d;have e:jT w g=gM (w.ay g {bu x with call:=w.av}) g (aP x):=by unfold jT;grind
 rw[e]at h;unfold gM at h;have n:(w.ay g {bu x with call:=w.av}).drawn=w.drawn:=rfl;have p:(w.ay g {bu x with call:=w.av}).list=w.list:=rfl;rw[n,p,aE (by rw[l];simp;omega)]at h;simp only[bW,cI]at h;obtain⟨a,A,y,B,h⟩:=h;rw[m]at B;cases B;have E:=aR7 A;rw[sr]at E;have r:∀y:bI,(w.gs.set g y)[g]?=some y:=λy=>di (x:=x) y d
 have b:∀(x':bI),aP x'=aP x->x'.aH=a.map (·.1)->(x'.ae=19->a=[])->∀i c,Xq (aP x) i=some c->bf7 x' i->c.ch<1\/w.au.length<c.ch:=λx' N O Q i c F t=>ww λR=>by
  have G:idx (aP x).cases i=some c:=by unfold Xq at F;grind
  have S:=br0 A (by rw[sr]) G (by show(decide (1<=c.ch)&&decide (c.ch<=w.au.length))=true;simp only[qs,lm];omega);rcases t with h|⟨_,h⟩;all_goals grind
 by_cases u:a≠[]
 .rw[aF u]at h;simp only[Gt,fL,Wd.ay,my,r,km]at h
  cases h;refine aI0 I J d k j {bu x with call:=w.av,aH:=a.map (·.1),aq:=kf (a.map (·.2)),ae:=24} 24 (sh:= ?_) (pt:= ?_) (hin:=.inr (b _ ii ii (λh=>cj5)))
  all_goals
   have t:=Gs (a.map (·.2));have f:=D.cl;simp only[ko]at t
  .exact⟨ci8,by show(kf (a.map (·.2))).length<=8;omega,wn _⟩
  grind [pQ,cost]
 have v:a=[]:=Classical.not_not.1 u;have f:KO (a.map (·.1)) (kf (a.map (·.2))) []:=by rw[v];exact⟨wn _,wn _,wn _⟩
 rw[aE u]at h;split at h
 .simp only[Nc,fL,Wd.ay,my,r,km]at h
  cases h;exact aI0 I J d k j {bu x with call:=w.av,aH:=a.map (·.1),aq:=kf (a.map (·.2)),res:={aJ:=2,case:= -1},lQ:=w.av,ae:=18} 18 (sh:=f) (hin:=.inr (b _ ii ii (λ_=>v)))
 simp only[never,Gt,fL,Wd.ay,my,r,km]at h
 cases h;exact aI0 I J d k j {bu x with call:=w.av,aH:=a.map (·.1),aq:=kf (a.map (·.2)),ae:=19} 19 (sh:=f) (e7:=aK4) (e8:=λ_ H=>bi5 H) (hin:=.inr (b _ ii ii (λ_=>v)))
theorem bz6{b:List (Int×Bool)}(h:p≠n):(Av b n).1[p]?=b[p]?:=by
 unfold Av;grind
section
variable(I:Inv w ls)(J:Inv2 w)(hx:w.gs[g]?=x)
include I J hx
theorem aT6(d:Na w g)(b:x.ae=0)(e:(x.ops:Int)<=x.at_)(h:jT w g=w'):aH2 w w' g x:=by
 unfold jT at h;simp only[hx,bW,eN,e,dt]at h
 cases h;have G:=bY2;have i:=aU3 d;have C:=(I.loc g x hx).begin b;have a:¬aW x/\¬told x/\¬Ra x/\¬aY6 x/\¬aT x:=by unfold aW told Ra aY6 aT;omega
 exact Own.pR (x':=x) {hx:=hx,gs:=(congrArg Wd.gs (aQ5 hx)).symm,tl:=λh=>aX h a.2.1,tu:=.inl ⟨b,.inl rfl,C.bJ,C.lQ⟩,io2:=λh=>oX,zp:=λh=>aX h a.2.2.1,ar:=λh=>aX h a.2.2.2.1,aw:=λh=>aX C.bJ h,bn:=λj t f h=>⟨t,by rw[bz6 f];exact h,id⟩,ow:=λh=>aX h a.1,n9:=λh=>oX,dr:=λc h=> .inl h,a4:=λh=>ck8,g2:=⟨G.nc,G.eU,G.early,G.par,G.cl,G.sh⟩,Yu:=by show V.Yu x+Rn (Av w.ax g).1+3*Xr w.ef+1<=_;omega}
theorem aR8(b:Na w g)(c:x.ae=0)(d:0<=w.drawn)(a:kJ w.drawn)(h:jT w g=w'):aH2 w w' g x:=by
 by_cases e:x.at_<x.ops.length
 .grind [aQ3,aQ2]
 grind [aT6]
theorem aU5(f:x.ae=(20:Nat))(h:doS w g=w'):aH2 w w' g x:=by
 have L:=bT4;have G:=bY2;obtain⟨i,l⟩:=pj I hx oX;have b:=bU4;have m:(aP x).ai≠9:=by intro h;rw[h,f]at b;simp[bG]at b
 have j:¬((aP x).ai=2\/(aP x).ai=3):=by rintro(h|h)<;>rw[h,f]at b<;>simp[bG]at b
 have e:¬aw0 x/\¬aW x:=⟨co6,uy oX⟩;unfold doS at h;simp only[i,hx,bW,eN]at h;split at h
 .unfold makeChan at h;split at h
  .simp only[eN]at h
   cases h;exact aH3 I J hx {x with res:={aJ:=7,case:= -1},lQ:=w.av,ae:=18} 20 18 (hm:=e)
  split at h
  .cases h
  simp only[eN]at h
  cases h
  have a:∀c,pP ({w with aO:=w.aO++[false]}:Wd) c↔pP w c:=λc=>by
   unfold pP idx;show(if 0<=c-1 then(w.aO++[false])[(c-1).toNat]? else none)=true↔_;split
   .rcases Nat.lt_trichotomy (c-1).toNat w.aO with h|h|h
    .rw[Ev h]
    .simp_all
    rw[rq ci8,rq oX]
   exact ak1
  have k:=J.stp;refine Own.pR (x':={x with res:={aJ:=1,case:= -1,ok:=true,n:=w.au.length+1},lQ:=w.av,ae:=18}) {hx:=hx,c1:=λc h=>(a c).2 h,c2:=λc h=> .inl ((a c).1 h),rl:=cs4,tl:=λ_=> .inr ⟨λc h=>?_,λc h=>aX h.1 (by show(aP x).ai≠6;omega),λd h=>?_⟩,io:=λh=>aX h ci9,r:=λc r h=> .inl ?_,g2:=G2.pre L G e.1 e.2 ii ii (λc h=>aX h (aI2 sX c)) (λh=>cj5) (λc h=>aX h.1 sX),Yu:=aI4 20 18}
  .show(w.au++[_])[c]?=some r;grind
  .have h:(w.au.length:Int)+1=c:=h.2.2;exact⟨oX,by show c<=((w.au++[_]).length:Int);simp;omega,ii⟩
  have h:Xq (aP x) x.fire=some d:=h.2.2.1;grind [Xq]
 split at h
 .simp only[cI]at h;obtain⟨n,_,h⟩:=h
  cases h;exact aH3 I J hx {x with res:={aJ:=1,case:= -1,ok:=true,n:=n},lQ:=w.av,ae:=18} 20 18 (hm:=e) (tl:=λ_=> .inr (aY7 cq8 λd h=>cu6))
 grind [bG]
theorem aQ4(i:x.ae=(18:Nat))(h:mL w g=w'):aH2 w w' g x:=by
 have L:=bT4;have G:=bY2;have m:=L.JY;have n:=bU3;have f:x.OK=[]:=L.uP oX oX oX oX oX;unfold mL at h;simp only[hx,bW,eN]at h;split at h
 .cases h
 split at h
 .cases h
 cases h;have j:¬aW x:=uy oX;refine Own.pR (x':={bu {x with at_:=x.at_+1}with ae:=0}) {hx:=hx,wi:=.inr (.inr j),dn:=λd h=>?_,tu:=.inl ⟨ii,.inr rfl,ii,ii⟩,io:=λ_ h=>aX ii h,pk:=λh=>(by simp[bu]at h),wk:=λz h=>(by rw[f]at h;cases h),lv:=λs sd h k=> .inl ⟨sd,h,k,ii,ii,ii,ii,λ_ l=>?_⟩,g2:=⟨λc h=>aX h (aI2 sX c),λ_ h=>cj5,λh=>aX ii h,λs h=>by simp[bu]at h,λc h=>aX h.1 sX,⟨wn _,wn _,wn _⟩⟩,Yu:= ?_}
 .rcases ae4.1 h with h|h
  .exact .inl h
  grind [told]
 .have p:V.Yu x=aH7 (x.ops.drop (x.at_.toNat+1))+1:=by rw[aO5 18 i oX,f];rfl
  have e:V.Yu {bu {x with at_:=x.at_+1}with ae:=0}=aH7 (x.ops.drop (x.at_.toNat+1)):=by unfold V.Yu;rw[aF rfl];show aH7 (x.ops.drop (x.at_+1).toNat)+0=_;grind
  show V.Yu {bu {x with at_:=x.at_+1}with ae:=0}+Rn w.ax+3*Xr w.ef+1<=_;omega
 rcases l with⟨a,b,_⟩|⟨a,_,b,_⟩
 .grind [Loc.tI]
 have:=L.rest a oX _ (lf b);omega