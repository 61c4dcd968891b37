import Derived.Test.YtadifmnmfnihdaaGreatA11
import Derived.Test.YtadifmnmfnihdaaGreatA12
set_option linter.all false
set_option maxRecDepth 100000
set_option maxHeartbeats 40000000
namespace Go.Proofs.YtadifmnmfnihdaaGreat
open Mach
variable{t E S':Wd}{N:ap}{b n z p X cp:Nat}{e O:bI}{sd:fE}{G:Fx}{u f w':World}{D Q:Mem}{Y:Int}{h:ce}{Z:Bool}
namespace V
section
variable{w:Wd}{g s:Nat}{x x':bI}
theorem Inv.ZV(I:Inv w N)(l:g<w.gs)(m:(w.Eg.take g).2.2)(c:fE):∃(j:Nat) (a:fE),(w.Eg.take g).2.1=j/\w.ah[j]?=a/\Inv ({w.cJ j c with Eg:=(w.Eg.take g).1}:Wd) N/\(∀(i:Nat) u,w.gs[i]?=some u->∀sd,w.ah[j]?=some sd->sd.cK->False):=by
 obtain⟨j,n,o,p,q,r,v⟩:=(we I.Eg l).1 m;obtain⟨a,d⟩:∃a,w.ah[j]?=some a:=⟨_,fv o⟩;have k:∀sd,w.ah[j]?=some sd->sd.cK=true->False:=λsd f b=>by have:=I.cK j sd f b;rw[p]at this;cases this
 exact⟨j,a,n,d,I.Wk d (λb=>aX b (λh=>k a d h)) v r (λ_=>q),λi u A sd f b=>k sd f b⟩
section
variable(I:Inv w N)(hx:w.gs[g]?=x)(hs:Na w g)(hk:(aP x).ai=2\/(aP x).ai=3)
include I hx hs hk
theorem FJ(q:x.ae=10)(d:fE)(B:d.cK)(C:d.g=g)(D:d.case= -1)(F:d.ch=(aP x).ch)(G:d.cF=decide ((aP x).ai=2)):∃t,rE w g d=some t/\Inv t N/\bK w t:=by
 have L:=bT4;have r:g<w.gs.length:=um hx;have n:¬aW x:=uy oX;have H:=L.yC oX;unfold rE;simp only[hx,bW,eN]
 cases v:(w.Eg.take g).2.2 with
 |true=>
  obtain⟨j,Q,J,A,f,_⟩:=I.ZV r v d;simp only[dt,J,eQ,A,eN];obtain⟨o,p⟩:=M.p10 L hk q j;refine⟨_,ii,?_⟩;have m:({w.cJ j d with Eg:=(w.Eg.take g).1}:Wd).gs[g]?=x:=hx;have W:=f.jU (x':={x with bY:=(j:Int),ae:=11}) m (ae0 _)
  have K:Inv (({w.cJ j d with Eg:=(w.Eg.take g).1}:Wd).ay g {x with bY:=(j:Int),ae:=11}) N:=
   f.aW6 m o (λk l s sd _ _ _ _ a c=>aX c (Ca oX sd)) (λs h=>by
     simp only at h;obtain rfl:s=j:=oX
     exact⟨d,qN A,B,C,.inl ⟨cp1,ii,D,F,G⟩⟩) (λi s h=>by simp only[H]at h;simp at h) (λj u s sd _ _ _ _ _ _ a b _ _ _=>aX b n) (λh=>cm8) (λh=>cl9)
    (λs h=>by have:=L.aN.2 n;simp only at h;omega) W.1 W.2 ii ii ii f.au ii ii (f.lock.same m p) ii ii ii (f.st.same m hs (λh=>aX h n) ii sX sX) (f.jn.same m (λh=>aX h n) ii ii sX)
  exact⟨K,dW hx ii,ii,ii,ii,ii,ii⟩
 |false=>
  simp only[nW,dF];obtain⟨f,o,p⟩:=M.V1 L hk q;exact⟨w.ay g {x with res:={x.res with aJ:=6},ae:=16},(by rw[(we I.Eg r).2 v]),I.ku hx hs f ⟨sX,sX⟩ o p ii⟩
theorem Cd(D:x.ae=11)(F:Y=if(aP x).ai=2 then 2*(aP x).ch-1 else 2*(aP x).ch-2):∃t G,rF w g Y=some t/\Inv t G/\bK w t:=by
 have L:=bT4;have hc:=bT6;have H:=I.c8;have d:¬aW x:=uy oX;obtain⟨s,A⟩:=pz (L.bY oX oX);obtain⟨sd,i,J,Q,B⟩:=I.bY g x s hx A;obtain⟨R,S⟩:=M.p11 L hk D w.av;have T:=L.aN.2 d;have K:=I.iQ (x':={x with bJ:=w.av,ae:=12}) hx ii ii ii;have W:=I.jU (x':={x with bJ:=w.av,ae:=12}) hx (ae0 _)
 have U:Inv (w.ay g {x with bJ:=w.av,ae:=12}) N:=
  I.aW6 hx R (λk l s sd _ _ _ _ a c=>aX c (Ca oX sd)) K.1 K.2.1 (λj u s sd _ _ _ _ _ _ a b _ _ _=>aX b d) (λh=>cm8) (λh=>cl9)
   (λs h=>ck1) W.1 W.2 ii ii ii I.au ii ii (I.lock.same hx S) ii ii ii (I.st.same hx hs (λh=>aX h d) ii sX sX) (I.jn.same hx (λh=>aX h d) ii ii sX)
 have X:Y=Lh sd:=by
  rcases B with⟨_,_,_,bO,Ar⟩|⟨h,_⟩
  .unfold Lh;grind
  omega
 have m:0<=Y/\Y<16:=by rw[F];split<;>omega
 obtain⟨k,Z⟩:=pz m.1;subst Z;have eE:(w.ay g {x with bJ:=w.av,ae:=12}).gs[g]?=some {x with bJ:=w.av,ae:=12}:=di _ hx
 obtain⟨n,l,p1,C,p3⟩:=U.UX (s:=s) (k:=k) (g:=g) (sd:=sd) i J Q eE B (.inl ⟨cp1,.inl rfl,T⟩) X oX
  (λk' l' tA Ht=>by
   obtain⟨AU,g2,x2,o,p,b3,r,b5,f,_⟩:=I.EJ k' l' s tA Ht;rw[i]at o;cases o;obtain rfl:g2=g:=oX
   rw[hx]at r;cases r;exact Ca oX sd f)
  (λ_ j u hu G9 SR=>by
   have Wu:(w.gs.set g {x with bJ:=w.av,ae:=12})[j]?=some u:=hu;rcases cX hx Wu with⟨_,h⟩|⟨cM,Nw⟩
   .grind [aT]
   obtain⟨s2,z,AU,O,o,p,b3,r,b5,f,b7,b8,_⟩:=I.claim j u Nw G9;obtain rfl:s2=s:=oX
   rw[i]at p;cases p;obtain rfl:z=g:=oX
   rw[hx]at f;cases f;exact d b8)
 have Kw:lh w k s=some {w with ef:=n}:=by unfold lh at C ⊢;show(w.ef.push k s).map _=_;have Nx:(w.ef.push k s).map (λq=>({(w.ay g {x with bJ:=w.av,ae:=12})with ef:=q.1}:Wd))=some {(w.ay g {x with bJ:=w.av,ae:=12})with ef:=n}:=C;simp_all
 have v:lh w k x.bY=some {w with ef:=n}:=by rw[A];exact Kw
 unfold rF;simp only[hx,v,bW,eN];exact⟨_,N.set k (l++[s]),ii,p3,dW hx ii,ii,ii,ii,ii,ii⟩
end
theorem IY(a:b<h)(v:Int):put h (b:Int) v=h.set b v:=by unfold put;simp[a]
section
variable(I:Inv w N)(hx:w.gs[g]?=x)(hs:Na w g)(hk:(aP x).ai=9)
include I hx hs hk
theorem Bc(r:x.ae=28):∃t,ju w g (aP x)=some t/\Inv t N/\bK w t:=by
 have L:=bT4;obtain⟨s1,s2,s3⟩:=bT1;have kE:=bT2;obtain⟨i,c,R,D,S,T,h5,h6,h7,U⟩:=bU1;have hg:g<w.gs.length:=um hx;have d:¬aW x:=uy oX;have F:∀sd,¬eV x sd:=Ca oX;have A:i<x.bA.length:=by grind [nm.len]
 have X:=L.tI (.inl hk);have Y:=L.aN.2 d;unfold ju;simp only[hx,bW,eN]
 cases eK:(w.Eg.take g).2.2 with
 |true=>
  obtain⟨j,Nf,Z,G,f,e3⟩:=bV7;simp only[aH6,dF,R,S,Z,eQ,G,IY A,U,eN];have m:({w.cJ j {cK:=true,g:=g,ch:=c.ch,case:=i,cF:=c.cF,v:=c.v}with Eg:=(w.Eg.take g).1}:Wd).gs[g]?=x:=hx
  have n:∀x':bI,x'.ops=x.ops->x'.at_=x.at_->x'.bY=x.bY->x'.bA=x.bA.set i j->x'.OK=x.OK->x'.aN=x.aN->x'.fire=x.fire->Loc w.au x'->(∀c,aL x' c↔aL x c)->(x'.ae=28\/x'.ae=29)->
    Inv (({w.cJ j {cK:=true,g:=g,ch:=c.ch,case:=i,cF:=c.cF,v:=c.v}with Eg:=(w.Eg.take g).1}:Wd).ay g x') N/\bK w (({w.cJ j {cK:=true,g:=g,ch:=c.ch,case:=i,cF:=c.cF,v:=c.v}with Eg:=(w.Eg.take g).1}:Wd).ay g x'):=by
   intro x' f0 f1 f2 f3 f4 f5 f6 hL hh kM;have eg:=oM f0 f1;have W:=f.jU (x':=x') m (by rw[f4];exact ae0 _)
   refine⟨f.aW6 m hL (λk l s sd _ _ _ _ a c=>aX c (F sd)) (λs h=>by rw[f2,X]at h;omega) (λB s h=>?_) (λj u s sd _ _ _ _ _ _ a b _ _ _=>aX b d) (λh=>ck8) (λh=>ck5)
    (λs h=>by rw[f5,Y]at h;omega) W.1 W.2 ii ii ii f.au ii ii (f.lock.same m hh) ii ii ii (f.st.same m hs (λh=>aX h d) f5 (λh=>oX) oX) (f.jn.same m (λh=>aX h d) f5 f4 (λh=>oX)),dW hx f0,ii,ii,ii,ii,ii⟩
   rw[f3]at h;by_cases C:B=i
   .subst C;rw[nH A]at h;have:s=j:=by have:=mx h;omega
    subst this;refine⟨_,qN G,ii,ii,ii,.inr ⟨cw5,sX,?_,c,?_,ii,ii⟩⟩
    .rw[f3];simp only[oU];rw[nH A]
    rw[eg];simpa using T
   rw[oA (dE C)]at h;obtain⟨sd,H,J,b3,b4,b5⟩:=I.bA g x B s hx h;have VA:s≠j:=(by rintro rfl;exact e3 g x hx sd H J);refine⟨sd,(OW _ VA).trans H,J,b3,b4,?_⟩;rcases b5 with⟨q,_⟩|⟨q1,q2,q3,q4⟩
   .exact aX hk q
   refine .inr ⟨by rw[eg];exact q1,q2,?_,by rw[eg];exact q4⟩;have e6:sd.case.toNat=B:=oX;rw[f3,e6,oA (dE C)];exact h
  by_cases Q:(x.aH.length:Int)<=x.k+1
  .rw[aF Q];obtain⟨o,p⟩:=M.aq5 L hk r oX i j D;exact⟨_,ii,n {x with bA:=x.bA.set i j,k:=0,ae:=29} rfl ii ii ii ii ii ii o p (.inr rfl)⟩
  .rw[aE Q];obtain⟨o,p⟩:=M.aq4 L hk r oX i j D;exact⟨_,ii,n {x with bA:=x.bA.set i j,k:=x.k+1} rfl ii ii ii ii ii ii o p (.inl r)⟩
 |false=>
  simp only[dt];obtain⟨o,p⟩:=M.an4 L hk r;have K:=I.iQ (x':={x with res:={x.res with aJ:=6},k:=x.aq.length,ae:=30}) hx ii ii ii;have W:=I.jU (x':={x with res:={x.res with aJ:=6},k:=x.aq.length,ae:=30}) hx (ae0 _);refine⟨w.ay g {x with res:={x.res with aJ:=6},k:=x.aq.length,ae:=30},(by rw[(we I.Eg hg).2 eK];rfl),?_,dW hx ii,ii,ii,ii,ii,ii⟩
  exact I.aW6 hx o (λk l s sd _ _ _ _ a c=>aX c (F sd)) K.1 K.2.1 (λj u s sd _ _ _ _ _ _ a b _ _ _=>aX b d) (λh=>cm8) (λh=>cl9)
   (λs h=>ck1) W.1 W.2 ii ii ii I.au ii ii (I.lock.same hx p) ii ii ii (I.st.same hx hs (λh=>aX h d) ii sX sX) (I.jn.same hx (λh=>aX h d) ii ii sX)
theorem DC(r:x.ae=34):∃t,jK w g=some t/\Inv t N/\bK w t:=by
 have L:=bT4;obtain⟨s1,s2,R⟩:=bT1;have kE:=bT2;obtain⟨i,c,S,T,h3,h4,h5,h6,h7,D⟩:=bU1;have U:g<w.gs.length:=um hx;have o:¬aW x:=uy oX;have X:∀sd,¬eV x sd:=Ca oX;have p:i<x.bA.length:=by grind [nm.len]
 have Y:=L.tI (.inl hk);have Z:=L.aN.2 o;have J0:x.OK=[]:=L.uP oX oX oX oX oX;obtain⟨v,hv⟩:∃v,x.bA[i]?=some v:=⟨_,fv p⟩;have ei:idx x.bA i=some v:=cy0
 obtain⟨x',th,f0,f1,f2,f4,f5,hL,hh,kM,td⟩:∃x':bI,x'=(if(x.aH.length:Int)<=x.k+1 then{x with k:=0,bA:=[],ae:=aP8 x}else{x with bA:=x.bA.set i (-1),k:=x.k+1})/\x'.ops=x.ops/\x'.at_=x.at_/\x'.bY=x.bY/\x'.OK=x.OK/\x'.aN=x.aN/\Loc w.au x'/\(∀c,aL x' c↔aL x c)/\(x'.ae=18\/x'.ae=34)/\
   ∀f s:Nat,x'.bA[f]?=some (s:Int)->f≠i/\x'.bA=x.bA.set i (-1):=by
  by_cases F:(x.aH.length:Int)<=x.k+1
  .obtain⟨A,B⟩:=M.aq7 L hk r;refine⟨_,ii,?_⟩;rw[aF F];have d:aP8 x=18:=by unfold aP8;rw[aF J0]
   rw[d];exact⟨ii,ii,ii,ii,ii,A,B,.inl rfl,λf s h=>cj5⟩
  obtain⟨A,B⟩:=M.aq6 L hk r oX i T;refine⟨_,ii,?_⟩;rw[aE F];refine⟨ii,ii,ii,ii,ii,A,B,.inr r,λf s h=>⟨λd=>?_,ii⟩⟩;subst d;simp only at h;rw[nH p]at h;have:=mx h;omega
 have G:=oM f0 f1;have W:=I.jU (x':=x') hx (by rw[f4];exact ae0 _)
 have I1:Inv (w.ay g x') N:=by
  refine I.aW6 hx hL (λk l s sd _ _ _ _ a c=>aX c (X sd)) (λs h=>by rw[f2,Y]at h;omega) (λf s h=>?_) (λj u s sd _ _ _ _ _ _ a b _ _ _=>aX b o) (λh=>ck8) (λh=>ck5)
   (λs h=>by rw[f5,Z]at h;omega) W.1 W.2 ii ii ii I.au ii ii (I.lock.same hx hh) ii ii ii (I.st.same hx hs (λh=>aX h o) f5 (λh=>oX) oX) (I.jn.same hx (λh=>aX h o) f5 f4 (λh=>oX))
  obtain⟨cM,Ar⟩:=td f s h;have h':=h;rw[Ar,oA (dE cM)]at h;obtain⟨sd,n,C,H,J,K⟩:=I.bA g x f s hx h;refine⟨sd,n,C,H,J,?_⟩;rcases K with⟨q,_⟩|⟨q1,q2,q3,q4⟩
  .exact aX hk q
  refine .inr ⟨by rw[G];exact q1,q2,?_,by rw[G];exact q4⟩;grind
 have K1:bK w (w.ay g x'):=⟨dW hx f0,ii,ii,ii,ii,ii⟩;unfold jK;simp only[hx,S,ei,bW,eN];by_cases m:v= -1
 .rw[aF m];simp only[eN,IY p,D,aH6,dF];grind
 rw[aE m];have Rv:=(R.own i v hv m).1;obtain⟨s,PF⟩:=pz Rv;subst PF;obtain⟨sd,n,C,H,J,K⟩:=I.bA g x i s hx hv;simp only[eQ,n,eN,IY p,D,aH6,dF];rw[<-th];have Pc:=I.cK s sd n C;obtain⟨g1,g2,g3⟩:=B7 (g:=g) I.Eg U Pc;refine⟨_,ii,?_,dW hx f0,ii,ii,ii,ii,ii⟩;refine I1.Wk (s:=s) (sd:=sd) (sd':={}) (p':=(w.Eg.nh g s).1) n (λ_ j u Q hj ho=>?_) (by simp only[Wd.ay,kI];exact g3) g2 (λh=>ck3);obtain rfl:j=g:=oX
 rw[mH hx]at Q
 cases Q;rcases ho with⟨h,_⟩|⟨_,_,h,_⟩
 all_goals grind
end
end
section
variable{w2:Wd}{g s:Nat}{x y:bI}{o:cu}
theorem DQ(I:Inv t N)(hx:t.gs[g]?=x)(i:Na t g)(f:(aP x).ai=6)(n:x.ae≠0/\x.ae≠18/\x.ae≠19/\x.ae≠20):∃E d,js t g=(E,true)/\Inv E d/\bK t E:=by
 have L:=bT4;obtain⟨u,v⟩:=pj I hx n.1;have j:=L.kp n.1;have A:=L.pl;have k:∀{a:Option Wd},(∃E,a=some E/\Inv E N/\bK t E)->∃E d,yes a=some (E,true)/\Inv E d/\bK t E:=λ⟨E,a,b,c⟩=>⟨E,N,nN a,b,c⟩
 have q:∀{a:Option Wd},(∃E d,a=some E/\Inv E d/\bK t E)->∃E d,yes a=some (E,true)/\Inv E d/\bK t E:=λ⟨E,d,a,b,c⟩=>⟨E,d,nN a,b,c⟩
 unfold js;simp only[u,hx,bW,eN];rw[aE oX];by_cases hc:x.ae=4\/x.ae=12\/x.ae=13\/x.ae=15\/x.ae=16\/x.ae=17
 .rw[aF cw0];grind [ud]
 rw[aE cw0];by_cases l:x.ae=21
 .rw[aF l];exact k (LX I hx i f l)
 rw[aE l];by_cases m:x.ae=22
 .rw[aF m];exact q (bp8 I hx i f m)
 rw[aE m];by_cases r:x.ae=23
 .rw[aF r];exact q (Dt I hx i f r)
 exfalso;rw[f]at j;have:x.ae=1\/x.ae=2\/x.ae=3\/x.ae=5\/x.ae=6\/x.ae=7\/x.ae=8\/x.ae=9\/x.ae=10\/x.ae=11\/x.ae=14\/x.ae=24\/x.ae=25\/x.ae=26\/x.ae=27\/x.ae=28\/x.ae=29\/x.ae=30\/x.ae=31\/x.ae=32\/x.ae=33\/x.ae=34:=oX
 rcases this with h|h|h|h|h|h|h|h|h|h|h|h|h|h|h|h|h|h|h|h|h|h<;>rw[h]at j<;>simp[bG]at j
end
end V
open Go.RowKit Go.Proofs.Tryz
theorem zx(l a:List (Int×Bool))(i:Nat):eY i (l++a)=eY i l++eY (i+l) a:=by
 induction l generalizing i with
 |nil=>simp[eY]
 |cons x l ih=>
  grind [eY]
theorem DJ{b:List (Int×Bool)}(h:b[n]?=(Y,Z)):eY 0 (b.take (n+1))=if Y=0 then eY 0 (b.take n)++[(n:Int)]else eY 0 (b.take n):=by
 have a:=um h;rw[al6,h,zx];simp only[ay4,eY,tC,wl];grind
theorem xg(b:List (Int×Bool))(i:Nat):(eY i b).length<=b:=by
 induction b generalizing i with
 |nil=>simp[eY]
 |cons x l ih=>
  grind [eY]
structure WJ(H:Nat)(w:World)(b:List (Int×Bool))(k n:Nat)(v:Value)(wr:World):Prop where
 own:wr.ownsRow H 3 1 v n ((eY 0 (b.take k)).map I)
 len:n=(eY 0 (b.take k)).length
 below:Below H w wr
section
variable{w0:World}{m':Mem}{L:List (Nat×Obj)}
theorem DK(R:bz X G f D t)(hb:t.ax.length<=1000):gt 59 #[G.dB] f (vH f (cE t.ax)):=by
 obtain⟨i0,hi,fV,jC,gG⟩:=AC lC;have c0:=R.Bu;have ES:=ag (λ(j:Nat) (b:Int) (d:Bool) (h:t.ax[j]?=(b,d))=>R.one h);have E:=R.lt R.aB.ax;obtain⟨n,A⟩:=dC (t.ax.length);have H:=ag A;rw[<-A]at c0 hb;clear R A;go_enter func59,ntmps59;go_wp2;go_loopw [3,4,5,11] (λv _ _ i wr=>∃(k q:Nat) (l:Value),l=v/\i=.int .i64 k/\k<=n/\q<=k/\Hid (WJ f f t.ax k q l wr)) (λ_ _ _ i _=>n-(intOf i).toNat)
 case atStart=>exact⟨0,0,_,ii,ii,oX,oX,⟨ai9 _ _ _ _,ii,fp⟩⟩
 obtain⟨k,q,l,rfl,rfl,hk,hq,a⟩:=hrel;by_cases hl:k<n
 .obtain⟨⟨b,d⟩,C⟩:∃x,t.ax[k]?=some x:=⟨_,fv (by rw[<-H.out];exact hl)⟩;obtain⟨J,K⟩:=ES.out k b d C;have J:wr.cell? (G.ax,k*2)=I b:=by rw[a.out.below.cell (p:=(G.ax,k*2)) E];exact J
  have K:wr.cell? (G.ax,k*2+1)=B d:=by rw[a.out.below.cell (p:=(G.ax,k*2+1)) E];exact K
  have o:=a.out.below.size;have M:=ag (DJ C);clear C;by_cases h0:b=0
  .subst h0;obtain⟨N,O,rfl⟩:∃N O,l=.slice N q O:=by rcases a.out.own.2 with⟨c,T⟩|⟨g,cap,s,c,_⟩;all_goals grind
   go_wp2_with (at_builtin;go_loud (refine wpList_append_own _ ii (.tmp 19) (.tmp 21) 28 rfl f 3 i0 (.int .i64 0) 1 8 underlying28 hi fV jC gG ii dX _ _ _ ii ((a.out.own.alloc _).alloc _) ⟨wr.heap.size+1,0,none⟩ 1 1 [.int .i64 k] ii ii ?_ cq2 cj7 oX ci8 ?_));intro U w2 W Y E4
   have En:Hid (WJ f f t.ax (k+1) (q+1) U w2):=by
    have e:eY 0 (t.ax.take (k+1))=eY 0 (t.ax.take k)++[(k:Int)]:=(by rw[M.out];simp);refine⟨?_,by rw[e,aU7,<-a.out.len];rfl,((a.out.below.alloc o _).alloc ci8 _).grown Y ci8 ?_⟩
    .grind
    intro r Z;rcases a.out.own.2 with⟨c,T⟩|⟨g,cap,s,c,h3,_⟩
    .simp at c;rw[c.1]at Z;cases Z
    grind [Value.ownBlock]
   obtain⟨y,z,rfl⟩:∃y z,U=.slice y (q+1) z:=by rcases W.2 with⟨c,T⟩|⟨g,cap,s,c,_⟩;all_goals grind
   clear W Y E4;go_wp2;go_roundw
   case rel=>exact⟨k+1,q+1,_,ii,cj8,oX,oX,En⟩
   simp[intOf];omega
  have y:(b==0)=false:=cq3
  have c:=M.out;rw[aE h0]at c;have s:Hid (WJ f f t.ax (k+1) q l (wr.alloc (.cells #[I b,B d] 154))):=⟨by rw[c];exact a.out.own.alloc _,by rw[c];exact a.out.len,a.out.below.alloc o _⟩;clear c h0;go_wp2;go_roundw
  case rel=>exact⟨k+1,q,_,ii,cj8,oX,oX,s⟩
  simp[intOf];omega
 obtain rfl:k=n:=oX
 go_wp2;go_ret;have c:=a.out.own;have o:=a.out.len;rw[yl (by rw[<-H.out];exact rx _)]at c o;refine⟨_,ii,?_,a.out.below⟩;unfold yv;rw[show cE t.ax=eY 0 t.ax from ii,<-o];exact c
end
section
variable{af:Nat}{F:Fx}{w w0:World}{m m0:Mem}{r:bH}{v:Value}
def Mem.fR(m:Mem)(k a c n:Nat):Mem:=(m.eG (.eU k) a 0).eG (.pl0 k) c n
theorem ug{m:Mem}{r:bH}(a:r≠ .eU n)(c:r≠ .pl0 n):(m.fR n z p X).aV r=m.aV r:=by
 grind [Mem.fR,Mem.bN]
theorem pq(m:Mem)(k a c n:Nat):(m.fR k a c n).aV (.eU k)=a:=by
 grind [Mem.fR,Mem.bN,Mem.dL]
theorem mY(m:Mem)(k c a n:Nat):(m.fR k c a n).aV (.pl0 k)=a:=by
 unfold Mem.fR;rw[Mem.dL]
section
variable(A:At af F m0 w0 m w t)(hr:w.heap[p]?=some (.cells #[(X,n,n),I 0,I 0] 159 (0,0)))(hp:w.heap[X]?=some (.cells (List.replicate n (I 0)).toArray 2 (0,0)))(cM:p≠X)(h1:af<=p)(h2:af<=X)(h3:∀r',m.aV r'≠p)(h4:∀r',m.aV r'≠X)(h5:w0<=p)(h6:w0<=X)
include A hr hp cM h1 h2 h3 h4 h5 h6
theorem At.P6:At af F m0 w0 (m.fR t.au p X n) w t:=by
 have a:t.au[t.au.length]?=none:=rq cG;have f:=A.aa5 (r:=.eU t.au.length) (c:=0) ii ii (by simp only[aj,a]) hr h1 h3 h5 (bc7 cG);refine f.aa5 (r:=.pl0 t.au.length) (c:=n) ii ii (by simp only[aj,a]) hp h2 (λd=>?_) h6 (ue cG);by_cases e:d=.eU t.au.length
 .subst e;rw[Mem.dL];intro h;exact cM (mx h)
 rw[Mem.bN e];exact h4 d
theorem At.yc{c:Nat}(x:w.grownBy u (m.aV .au))(g:u.ownsRow af 118 1 (z,t.au.length+1,c) (t.au+1) (aj m t .au++[.pointer p]))(y:m.aV .au=z\/w<=z):At af F m0 w0 ((m.fR t.au p X n).eG .au z c) (u.setCell (F.aQ,5) (z,t.au.length+1,c)) {t with au:=t.au++[{pl0:=List.replicate n 0}]}:=by
 have o:=A.P6 hr hp cM h1 h2 h3 h4 h5 h6;have s:(m.fR t.au p X n).aV .au=m.aV .au:=ug sX sX;have f:∀r,r≠bH.au->∀q,((m.fR t.au p X n).eG .au z c).cU r q=(m.fR t.au p X n).cU r q:=λr hr q=>Mem.qv _ _ _ _ hr
 have d:∀r,r≠bH.au->((m.fR t.au p X n).eG .au z c).ptr r=(m.fR t.au p X n).ptr r:=λr hr=>Mem.sL _ _ _ hr
 refine o.ar7 (r:=.au) (p:=(118,1)) ii ck4 o.bj.aB.aQ sX (by rw[s];exact x) g (by rw[s];exact y) ?_ ?_ ?_
 .simp only[aj,aU7,sV,aj6,wl];rw[bH2,al1];congr 1
  .apply bI8;intro i a;rw[bI2]at a;rw[d _ sX];unfold Mem.ptr;rw[ug ci8 sX]
  simp only[ae8,at5];rw[d _ sX,Mem.lz (pq _ _ _ _ _)]
 .simp only[aj,f _ (show bH.gs≠ .au by simp),d _ (show bH.dB≠ .au by simp),f _ (show bH.aO≠ .au by simp),d _ (show bH.dY≠ .au by simp),d _ (show bH.ef≠ .au by simp),f _ (show bH.ah≠ .au by simp),d _ (show bH.Eg≠ .au by simp),d _ (show bH.gN≠ .au by simp),f _ (show bH.UB≠ .au by simp),f _ (show bH.done≠ .au by simp),Mem.uH,aU7,sV,aj6,wl];rfl
 intro B C D
 cases B with
 |au=>exact aX ii C
 |aQ=>exact aX ii D
 |eU i=>
  by_cases e:i=t.au.length
  .subst e;refine .inr ⟨by rw[pq];simp,λE k=>?_⟩;rw[pq]at k
   cases k;have l:aj ((m.fR t.au.length p X n).eG .au (some z) c) {t with au:=t.au++[{pl0:=List.replicate n 0}]} (.eU t.au.length)=[.slice (some ⟨X,0,none⟩) n n,I 0,I 0]:=by simp only[aj,Ew cG,bG9,ak5];grind [Mem.de,Mem.fR,Mem.eG]
   rw[l];exact⟨_,_,hr,sX,sX,λa hp=>by cases hp⟩
  .refine .inl ?_;simp only[aj];grind
 |pl0 i=>
  by_cases e:i=t.au.length
  .subst e;refine .inr ⟨by rw[mY];simp,λE k=>?_⟩;rw[mY]at k
   cases k;have l:aj ((m.fR t.au p X n).eG .au z c) {t with au:=t.au++[{pl0:=List.replicate n 0}]} (.pl0 t.au.length)=List.replicate n (I 0):=by simp only[aj,Ew cG,bG9,ak5];simp
   rw[l];exact⟨_,_,hp,sX,yl sX,λa hp=>by cases hp⟩
  .refine .inl ?_;simp only[aj];grind
 |_=>first
  |exact .inl rfl
  |exact .inl (by simp only[aj,gk,Cu,je,f _ (show _≠bH.au by simp),d _ (show _≠bH.au by simp),ne_eq,reduceCtorEq,as2])
end
end
theorem KF:(prog.info? 118).map (λi=>(i.zero,i.size,i.bytes))=some (some (.pointer none),1,8):=kX
theorem P7:(prog.info? 4).map (λi=>(i.zero,i.size,i.bytes))=(some (B false),1,1):=kX
theorem underlying87:prog.underlying 87=some (.slice 118):=kX
theorem underlying88:prog.underlying 88=some (.slice 4):=kX
section
variable{af:Nat}{F:Fx}{w:World}{m:Mem}{S:Wd}{L:List (Nat×Obj)}
theorem Be(R:bz af F w m S)(room:Int)(f:8<=S.au.length):gt 142 #[bR F,room] w (eL (.agg #[I 7,I (-1),I 0,B false,I 0]) λw'=>At af F m w m w' S):=by
 have b:=R.qx;obtain⟨a,c,d⟩:=bL9;rw[d]at b;obtain⟨n,e⟩:=dC (S.au.length);rw[<-e]at b f;have i:decide ((8:Int)<=(n:Int))=true:=ci8
 have j:=bO9;have g:=bM3;clear R d e;unfold bR;go_enter func142,ntmps142;go_wp2;refine bj2 ii ii (ag7 w _) bu0 ?_;exact⟨ii,g.out.alloc _⟩
theorem AB.yc{d:Nat}{q:Obj}(X:AB af F D u m w S [(d,q)]){buf:Obj}{n a b:Nat}(s:w.heap[a]?=some (.cells #[(b,n,n),I 0,I 0] 159 (0,0)))(f:w.heap[b]?=some (.cells (List.replicate n (I 0)).toArray 2 (0,0)))(A:a≠b)(B:af<=a)(C:af<=b)(E:∀l,m.aV l≠a)(G:∀l,m.aV l≠b)(H:u<=a)(J:u<=b)(K:a≠d)(M:b≠d){j:World}{g c:Nat}(t:(w.alloc buf).grownBy j (m.aV .au))(i:j.ownsRow af 118 1 (g,S.au.length+1,c) (S.au+1) (aj m S .au++[.pointer a]))(v:m.aV .au=g\/(w.alloc buf).heap.size<=g):AB af F D u ((m.fR S.au a b n).eG .au g c) (j.setCell (F.aQ,5) (g,S.au.length+1,c)) {S with au:=S.au++[{pl0:=List.replicate n 0}]} [(d,q)]:=by
 have N:a<w:=(dh s).1;have o:b<w:=(dh f).1;have O:d<w:=(dh X.head).1;have k:=(X.loc _ (rn ..)).2;refine⟨(X.at_.alloc buf).yc (by rw[gf w _ _ N];exact s) (by rw[gf w _ _ o];exact f) A B C E G H J t i v,λp f=>?_⟩;simp at f;subst f;refine⟨?_,λr e=>?_⟩
 .show(j.setCell _ _).heap[d]?=_;rw[fQ (λe=>k .aQ (by rw[X.bj.aB.aQ,e]))];rw[t.block d ci8 (λe=>k .au e.symm),gf w _ _ O];exact X.head
 have e:((m.fR S.au a b n).eG .au g c).aV r=d:=e;by_cases x:r=.au
 .subst x;rw[Mem.dL]at e
  cases e;rcases v with h|h
  .exact k .au h
  simp at h;omega
 rw[Mem.bN x]at e;by_cases y:r=.eU S.au.length
 .subst y;rw[pq]at e;cases e;exact K ii
 by_cases z:r=.pl0 S.au.length
 .subst z;rw[mY]at e;cases e;exact M ii
 rw[ug y z]at e;exact k r e
def iu(S:Wd)(n q:Nat):Wd:={S with au:=S.au++[{pl0:=List.replicate n 0}],aO:=S.aO++[false],aq:=S.aq++List.replicate q (-1)}
theorem AB.WU{S':Wd}(X:AB af F D u m w S L)(h:S=S'):AB af F D u m w S' L:=h▸X
theorem zE(A:At af F D u m w S)(n:Nat):gt 201 #[F.dY] (w.drewN n) λe w'=>e=I S.aq/\w'=w.drewN n:=
 (AI (A.drewN n).bj).mono λe w' h=>⟨h.1,h.2.symm⟩
theorem bk2(X:AB af F D u m w S L)(a:S.aq.length<=4000):gt 202 #[F.dY] w (eL (I S.aq) λw'=>∃Q,AB af F D u Q w' {S with aq:=S.aq++[-1]} L):=
 (AM X.bj a).mono λe w' ⟨b,Q,c⟩=>⟨b,Q,X.av c⟩
theorem DR(R:bz af F w m S)(n:Nat)(Zj:n<=64)(h8:¬8<=S.au.length)(Aq:S.aq=S.au.length)(cR:S.aO=S.au.length):gt 142 #[bR F,I n] w (eL (.agg #[I 1,I (-1),I 0,B true,I (S.au+1)]) (To af F m w (iu S n 1))):=by
 obtain⟨i1,U,jC,xi,gq⟩:=AC KF;obtain⟨i2,W,gG,vz,mz⟩:=AC P7;have X:=R.qx;obtain⟨k,N⟩:=dC (S.au.length);obtain⟨Z,vc,hh⟩:=bL9;rw[hh]at X;rw[<-N]at X h8;have WV:Hid (m.cU .au k=(Z,k,vc)):=by rw[N];exact hh
 have hb:decide ((8:Int)<=(k:Int))=false:=ci8
 have WM:=bO9;have O:=ag ((AB.iU R).alloc (.cells #[I 0,I 0,I 0,B false,I 0] 44));have HN:=ag (λw=>CW n Zj w);have b:=ag N;have vD:=ag R.eS;have TD:Hid (F.aQ<w):=WM;obtain⟨tP,s⟩:=dA cR Aq;clear R hh N cR Aq;unfold bR;go_enter func142,ntmps142;go_wp2_with (first|(go_at_call 200;refine(HN _).mono ?_;rintro e wA ⟨f,T,rfl,NY⟩;have t:=ag NY;have XA:=O.out.av ((At.refl O.out.bj).heap NY.below);have g:=XA.bj;have d5:=g.qx;rw[<-b.out,WV.out]at d5;have v:=g.frozen g.aB.aQ 5;have l1:=g.lt g.aB.aQ;have c:=g.owns (r:=.au) (p:=(118,1)) ii dX (n:=k) (by rw[b.out];simp[aj]);rw[WV.out]at c;have HO:=ag c;have qq:=g.eS;have x:=ag XA;clear XA g NY c)|(at_builtin;go_loud (refine jw (us:=#[f]) (w2:=wA) ii (.tmp 23) (.tmp 25) 87 rfl underlying87 U jC xi gq ii dX dX ii ii cj0 (Z,k,vc) k _ ii HO ii oX qq ?_)));intro gg cap w3 y z bE;have jz:(Value.slice Z k vc).ownBlock=m.aV .au:=by rw[<-WV.out,Mem.mM]
 rw[jz]at z bE;have FI:(w.alloc (.cells #[I 0,I 0,I 0,B false,I 0] 44)).heap.size=w.heap.size+1:=sX
 have P9:=t.out.rb0;have Qa:=t.out.pb0;have a4:w.heap.size+1<=f:=by rw[<-FI];exact P9
 have Pj:w.heap.size+1<=T:=by rw[<-FI];exact Qa
 have A:=x.out.yc (buf:=.cells #[f] 118) t.out.eU t.out.pl0 t.out.ne cv4 cv4 (O.out.bj.iT P9) (O.out.bj.iT Qa) oX oX oX oX z (by rw[<-b.out];exact y) (by simpa using bE);rw[<-b.out]at A;obtain⟨i,C,A⟩:∃i,i=_/\AB af F m w ((m.fR k f T n).eG .au gg cap) i _ _:=⟨_,ii,A⟩;have a0:=fW (o:=.cells #[f] 118) z d5 ii (x.out.bj.jv x.out.bj.aB.aQ sX);have WW:=fN (o:=.cells #[f] 118) z v l1 ii (x.out.bj.jv x.out.bj.aB.aQ sX);have wG:=ag A;have UT:=ag C;clear y z bE A C;go_upto_region 5 with fail
 rw[<-UT.out];clear d5 v a0 WW X UT HO qq l1;have RB:=wG.out.bj;have fe6:=RB.frozen RB.aB.aQ 6;have l1:=RB.lt RB.aB.aQ;obtain⟨E,G,TE⟩:=RB.shape (r:=.aO) (n:=S.aO.length) cs9;have e6:i.cell? ⟨F.aQ,6,none⟩=some (.slice E k G):=by rw[b.out,<-tP.out,<-TE];exact RB.Cv
 have zF:=bV8;rw[TE]at zF;have fu:i.ownsRow af 4 1 (E,k,G) k (S.aO.map B):=by rw[b.out,<-tP.out];exact zF
 have Jg:Hid ((Value.slice E k G).ownBlock=((m.fR k f T n).eG .au (some gg) cap).aV .aO):=by grind [Hid.out,Mem.mM]
 have Jh:Hid ((Value.slice E k G).ownBlock≠some F.aQ):=by rw[Jg.out];exact RB.jv RB.aB.aQ sX
 have OJ:=ag fu;have Ga:=RB.eS;clear RB TE fu zF;go_wp2_with (at_builtin;go_loud (refine jw (us:=#[B false]) (w2:=i) ii (.tmp 33) (.tmp 34) 88 rfl underlying88 W gG vz mz ii dX dX ii ii cj0 (E,k,G) k _ ii OJ ii oX Ga ?_));intro g2 hU w4 Gb oQ qU;obtain⟨d6,a1⟩:=bL5;rw[Jg.out]at oQ qU;have hlc:(S.aO++[false]).length=k+1:=by simp[tP.out,b.out]
 have H:=bV9;rw[hlc]at H;obtain⟨wC,J,H⟩:∃wC,wC=_/\AB af F m w (((m.fR k f T n).eG .au gg cap).eG .aO g2 hU) wC (iu S n 0) _:=⟨_,ii,H.WU (by simp[iu])⟩;have My:=ag H;have K:=ag J;clear Gb oQ qU H J;go_upto_block 6 with fail
 rw[<-K.out];clear K d6 a1 e6 fe6 OJ Ga Jg Jh l1 wG;have a:=My.out.bj;have c7:=a.pC;have d5:=a.qx;obtain⟨ve,vf,M⟩:=a.shape (r:=.au) (n:=(iu S n 0).au.length) cs9;have El:(iu S n 0).au.length=k+1:=by simp[iu,b.out]
 rw[M,El]at d5;have l1:=a.lt a.aB.aQ;have pJ:(iu S n 0).aq.length=k:=by simp[iu,s.out,b.out]
 have j:=ag (λq=>zE My.out.at_ q);rw[pJ]at j;have dD:decide ((k:Int)<(k:Int)+1)=true:=az4 oX;clear a M;refine wp_loop_rounds 2 ?_;rw[rounds_succ];go_wp2_with fail
 go_quiet ((go_at_call 201;exact ag5 (j _)));go_wp2_with (go_at_call 202;refine(bk2 (S:=iu S n 0) My.out.aI (by rw[pJ];omega)).mono ?_;rintro e wD ⟨rfl,mD,XD⟩;have d:=ag (XD.WU (S':=iu S n 1) (by simp[iu,List.replicate]));clear XD);clear c7 d5 j dD;have a:=d.out.bj;have c7:=a.pC;have d5:=a.qx;obtain⟨vg,vh,Nz⟩:=a.shape (r:=.au) (n:=(iu S n 1).au.length) cs9;have XG:(iu S n 1).au.length=k+1:=by simp[iu,b.out]
 rw[Nz,XG]at d5;have l2:=a.lt a.aB.aQ;have a2:(iu S n 1).aq.length=k+1:=by simp[iu,s.out,b.out]
 have j:=ag (λq=>zE d.out.at_ q);rw[a2]at j;have rT:decide ((((k+1:Nat):Int))<(k:Int)+1)=false:=ak9 oX;obtain⟨r0,r1,r2,r3,r4⟩:=qT d.out.head;have Hc:=aM d.out.head 0;have Hd:=aM d.out.head 1;have Au:=aM d.out.head 2;have He:=aM d.out.head 3;have Hf:=aM d.out.head 4;have a3:Hid ((S.au.length:Int)=k):=by rw[b.out];exact ag ii
 clear a Nz;rw[rounds_succ];go_wp2_with fail
 go_quiet ((go_at_call 201;exact ag5 (j _)));go_wp2;rw[a3.out];have Y:=d.out;refine bj2 ii ii (aV1 Y.head) bu0 ?_;refine⟨?_,_,At.xF ?_ (Y.loc _ (rn ..)).2 cG _ _ _ _ _⟩
 .trace_state;simp
 exact Y.at_.aI
theorem Bf(R:bz af F w m S)(d:S.aq=S.au.length)(f:S.aO=S.au.length)(room:Int)(S':Wd)(r:nP)(a:makeChan S room=(S',r)):gt 142 #[F.aQ,room] w (eL (.agg #[r.aJ,r.case,r.v,r.ok,r.n]) (To af F m w S')):=by
 unfold makeChan at a;by_cases b:8<=S.au.length
 .rw[aF b]at a
  cases a;exact(Be R room b).mono λe w' ⟨c,g⟩=>⟨c,m,g⟩
 rw[aE b]at a;by_cases c:room<0\/64<room
 .rw[aF c]at a;cases a
 rw[aE c]at a
 cases a;obtain⟨n,g⟩:=pz (show 0<=room by omega);subst g;have h:=DR R n oX b d f;have e:S.au.length+1-S.aq.length=1:=oX
 rw[e];exact h
theorem Gc(X:AB af F D u m w S L)(a:S.aq=S.au.length)(b:S.aO=S.au.length){room:Int}{S':Wd}{r:nP}(c:makeChan S room=(S',r)):gt 142 #[bR F,room] w (eL (.agg #[r.aJ,r.case,r.v,r.ok,r.n]) λw'=>∃Q,AB af F D u Q w' S' L):=
 (Bf X.bj a b room S' r c).mono λe w' ⟨d,Q,f⟩=>⟨d,Q,X.av f⟩
theorem Gd(X:AB af F D u m w S L){o:cu}(d:eX o.ch)(a:am)(b c:Nat)(f:wQ S o=Y):gt 143 #[bR F,.agg #[o.ai,o.ch,o.n,o.v,(a,b,c),o.dG]] w (eL Y λw'=>AB af F D u m w' S L):=
 (Mt X.bj o d a b c Y f).mono λe w' ⟨g,h⟩=>⟨g,X.av h⟩
section
variable(R:bz af F w m S)(g:Nat)(x:bI)(hx:S.gs[g]?=x)(o:cu)(ho:dH S g=o)(dj:o.cases.length<=1000)
include R g x hx o ho dj
theorem TG(hk:o.ai=1)(c:S.aq=S.au.length)(d:S.aO=S.au.length)(S1:Wd)(r:nP)(f:makeChan S o.n=(S1,r))(i:S1.gs[g]?=x):gt 90 #[bR F,I g] w (ee λw'=>To af F m w (S1.ay g {x with res:=r,lQ:=S1.av,ae:=18}) w'):=by
 obtain⟨E,c3,l⟩:=bK6;have G:(o.ai==1)=true:=cj1
 obtain⟨p,s,t,jc,a,y⟩:=mr hx ho f i c d;clear R hx ho hk f i c d;unfold bR;go_enter func90,ntmps90;go_wp2_with (go_at_call 92;refine(Uq l g p s dj).mono ?_;rintro e H ⟨⟨J,rfl,jB⟩,A1⟩;obtain⟨ca,cc,rfl⟩:=bV0;have z:=bV1;clear A1 jB);go_wp2_with (go_at_call 142;refine(Gc z.out.aI a y t).mono ?_;rintro e K ⟨rfl,A,X⟩;have RN:=bP5;have M:=RN.dM;have N:=bU0;have O:=bS4;have n1:=bW0;obtain⟨T,U,W,Y,Z,U0,FB,Bo⟩:=bJ5;obtain⟨wW,Dm,Fz,FA,FC,FD⟩:=bJ9;have B:=bQ0;have j:=X.res jc r;have k:=j.g (az jc) {x with res:=r,lQ:=S1.av} (q:=12) (v:=I S1.av);have b:=k.g (az (az jc)) {x with res:=r,lQ:=S1.av,ae:=18} (q:=2) (v:=I 18);rw[aA,aA]at b;have C:=ag b;clear X j k b RN);go_end0;refine⟨ii,A,?_⟩;try simp only[aj2,Nat.reduceAdd]
 exact C.out.at_
theorem Qb(hk:o.ai=7)(bO:eX o.ch)(n:Int)(hm:wQ S o=n):gt 90 #[bR F,I g] w (ee λw'=>To af F m w (S.ay g {x with res:={aJ:=1,case:= -1,ok:=true,n:=n},lQ:=S.av,ae:=18}) w'):=by
 obtain⟨a,c3,HR⟩:=bK6;have b:(o.ai==1)=false:=cj1
 have c:(o.ai==7)=true:=cj1
 have d:(o.ai==8)=false:=cj1
 exact bZ6
theorem Qc(hk:o.ai=8)(bO:eX o.ch)(n:Int)(hm:wQ S o=n):gt 90 #[bR F,I g] w (ee λw'=>To af F m w (S.ay g {x with res:={aJ:=1,case:= -1,ok:=true,n:=n},lQ:=S.av,ae:=18}) w'):=by
 obtain⟨a,c3,HR⟩:=bK6;have b:(o.ai==1)=false:=cj1
 have c:(o.ai==7)=false:=cj1
 have d:(o.ai==8)=true:=cj1
 exact bZ6
end
theorem Ge{room:Int}{S1:Wd}{r:nP}(a:makeChan S room=(S1,r)):S1.gs=S.gs:=by
 unfold makeChan at a;grind
theorem TJ(R:bz af F w m S)(k:S.aq=S.au.length)(l:S.aO=S.au.length)(g:Nat)(f:(dH S g).ai=1\/(dH S g).ai=7\/(dH S g).ai=8)(S':Wd)(a:doS S g=S'):gt 90 #[F.aQ,I g] w (ee (To af F m w S')):=by
 unfold doS at a;simp only[bW,cI]at a;obtain⟨o,p,x,b,a⟩:=a;obtain⟨c,i,e⟩:=nB p;rw[c]at f;by_cases d:o.ai=1
 .rw[aF d]at a;simp only[cI]at a;obtain⟨⟨S1,r⟩,j,a⟩:=a
  cases a;exact TG R g x b o c e d k l S1 r j (by rw[Ge j];exact b)
 rw[aE d]at a;rw[aF oX]at a;simp only[cI]at a;obtain⟨n,j,a⟩:=a
 cases a;rcases f with h|h|h
 .exact aX h d
 .exact Qb R g x b o c e h i n j
 exact Qc R g x b o c e h i n j
end
namespace V
def cost(o:cu):Nat:=24+16*o.cases
def aH7(l:go):Nat:=(l.map cost).sum
def pQ(p q l k:Nat):Nat:=
 let e:=2*l+2*q
 match p with
 |1=>17+e|2=>16+e|3=>15+e|4=>14+e|5=>13+e|6=>12+e|7=>11+e|8=>4+e|9=>11+e|10=>10+e|11=>9+e|12=>5+e|13=>4+e|14=>3+e
 |15=>2|16=>2|17=>1|18=>1|20=>2|21=>5|22=>4|23=>3
 |24=>(l-k)+6*q+l+6+e|25=>(q-k)+5*q+l+6+e|26=>(q-k)+5*q+l+5+e|27=>l+7+e|28=>(q-k)+4*q+l+5+e|29=>4*(q-k)+l+5+e|30=>k+5+e
 |31=>(l-k)+l+2*q+2|32=>(q-k)+l+q+2|33=>k+q+2|34=>(q-k)+2
 |_=>0
def Yu(x:bI):Nat:=(if x.ae=0 then aH7 (x.ops.drop x.at_.toNat)else aH7 (x.ops.drop (x.at_.toNat+1))+pQ x.ae.toNat x.aH x.aq x.k.toNat)+x.OK
def Rn(b:List (Int×Bool)):Nat:=(b.map λs=>if s.1=2 then 0 else 1).sum
def Xr(q:er):Nat:=(q.bM.map λl=>l.count.toNat).sum
def work(w:Wd):Nat:=(w.gs.map Yu).sum+Rn w.ax+3*Xr w.ef
def pP(w:Wd)(c:Int):Prop:=idx w.aO (c-1)=true
def aH4(x:bI)(c:Int):Prop:=(x.ae=22\/x.ae=23)/\(aP x).ch=c
def aH0(x:bI)(c:Int):Prop:=
 ((aP x).ai=2/\6<=x.ae/\x.ae<=11\/(aP x).ai=3/\(6<=x.ae/\x.ae<=8\/x.ae=10\/x.ae=11))/\c=(aP x).ch\/
 (aP x).ai=9/\25<=x.ae/\x.ae<=29/\∃(j:Nat) (i:Int) (a:Case),x.aH[j]?=i/\(aP x).cases[i.toNat]?=a/\a.ch=c/\(28<=x.ae\/(j:Int)<x.k)
def aw0(x:bI):Prop:=((aP x).ai=2\/(aP x).ai=3)/\(12<=x.ae/\x.ae<=15\/x.ae=18)\/(aP x).ai=9/\(x.ae=30/\x.res.aJ=0\/x.ae=13\/x.ae=14\/31<=x.ae\/x.ae=17\/x.ae=18)
def KO(a b c:ce):Prop:=a.length<=8/\b.length<=8/\c.length<=8
structure G2(w:Wd)(x:bI):Prop where
 nc:∀c,aH0 x c->¬pP w c
 eU:(aP x).ai=3->x.ae=9->pP w (aP x).ch->∃r,w.au[((aP x).ch-1).toNat]?=some r/\0<r.count
 early:x.bJ≠0->aw0 x
 par:∀s:Nat,x.aN=s->0<=x.bF\/∃sd,w.ah[s]?=some sd/\sd.done=false
 cl:∀c,aH4 x c->pP w c
 sh:KO x.aH x.aq x.bA
def Uj(d:Bool)(c:Int):Int:=if d then 2*c-2 else 2*c-1
structure Inv2(w:Wd):Prop where
 g2:∀(g:Nat) x,w.gs[g]?=some x->G2 w x
 a4:∀(g:Nat) x (s z:Nat) sd y,w.gs[g]?=some x->aT x->x.br=s->w.ah[s]?=some sd->sd.g=z->w.gs[z]?=some y->0<=y.bF/\y.lQ≠0/\0<=x.bF
 dr:∀c,pP w c->w.ef.len (2*c-2)<=0/\w.ef.len (2*c-1)<=0\/∃(g:Nat) (x:bI),w.gs[g]?=x/\aH4 x c
 ds:w.UB.length<=1000
 stp:1<=w.av
 n9:∀(g:Nat) x,w.gs[g]?=some x->x.ae=9->w.ef.len (Uj ((aP x).ai=2\/(aP x).ai=4) (aP x).ch)<=0
def core(x:bI):bI:={x with bF:=0,fire:=0,aN:=0,aR:=false,lQ:=0}
structure aL2(w':Wd)(y y':bI):Prop where
 core:core y'=core y
 bF:y'.bF=y.bF\/0<=y'.bF
 par:y'.aN=y.aN\/∀s:Nat,y'.aN=s->0<=y'.bF\/∃sd,w'.ah[s]?=some sd/\sd.done=false
 pt:y'.lQ=y.lQ\/y'.lQ≠0
def aZ1(x:bI)(s:Nat):Prop:=x.bY=s\/∃i:Nat,x.bA[i]?=(s:Int)
def JP(q:er)(s:Nat):Prop:=∃t,q.aS[s]?=some t/\t.pX≠ -1
def told(x:bI):Prop:=15<=x.ae/\x.ae<=18\/x.ae=22\/x.ae=23\/x.ae=30/\x.res.aJ≠0\/31<=x.ae
def bf6(w:Wd)(m:Ex)(o:cu):Prop:=(∃d∈w.done,m={d with re:=0}/\Ug (w.gs.map (·.ops)) d=o)\/∃(g:Nat) (x:bI),w.gs[g]?=x/\told x/\m=qu x g 0/\o=aP x
structure bk3(w':Wd)(n:Int)(m:Ex)(o:cu):Prop where
 cre:∀c,be4 o m c->1<=c/\c<=w'.au/\m.lQ=n
 pP:∀c,bo3 o m c->pP w' c
 lone:∀d,bc4 o m d->w'.ef.len (Uj d.cF d.ch)<=0
def bf7(x:bI)(i:Int):Prop:=x.ae=19\/(aP x).ai=9/\i ∉ x.aH
def bA5(w b:Wd)(x a:bI):Prop:=
 a.ae=0/\(a.call=x.call\/a.call=0)/\a.bJ=0/\a.lQ=0\/
 a.call=w.av/\a.bJ=0/\(a.lQ=0\/a.lQ=w.av)/\b.au=w.au/\b.done=w.done/\(∀i c,Xq (aP a) i=some c->bf7 a i->c.ch<1\/w.au<c.ch)\/
 x.ae≠0/\a.ae≠19/\aP a=aP x/\a.call=x.call/\a.aH=x.aH/\(a.bJ=x.bJ\/a.bJ=w.av)/\(a.lQ=x.lQ\/a.lQ=w.av\/a.lQ=0/\a.bJ=0)
def Ra(x:bI):Prop:=((aP x).ai=2\/(aP x).ai=3)/\4<=x.ae/\x.ae<=11/\x.ae≠8\/x.ae=19
def aY6(x:bI):Prop:=12<=x.ae/\x.ae<=14\/x.ae=30/\x.res.aJ=0
structure bD5(w w':Wd)(g:Nat)(x x':bI):Prop where
 st:w'.av=w.av
 rl:w.au<=w'.au.length
 tl:told x'->told x/\qu x' g 0=qu x g 0/\aP x'=aP x\/bk3 w' w.av (qu x' g 0) (aP x')
 dn:∀d∈w'.done,d∈w.done\/d=qu x g w.av/\told x/\x'.ae=0/\0<=x.at_/\x.at_<x.ops
 ot:∀(j:Nat) y y',j≠g->w.gs[j]?=some y->w'.gs[j]?=some y'->y'=y\/aW y/\y'.lQ≠0/\(y'.lQ=y.lQ\/y'.lQ=w.av)/\(aT x'/\(∃(s:Nat) (sd:fE),x'.br=s/\w'.ah[s]?=sd/\sd.g=j)\/0<=y'.aN/\(j:Int)∈x'.OK)
 tu:bA5 w w' x x'
 iq:∀s sd,JP w.ef s->w.ah[s]?=some sd->JP w'.ef s\/∃(z:Nat) (y':bI),sd.g=z/\w'.gs[z]?=y'/\(y'.lQ≠0\/y'.aR)
 io:x'.lQ=0->x'.bJ≠0->∀s,aZ1 x' s->x.lQ=0/\x.bJ≠0/\aZ1 x s\/x.ae=29/\x.lQ=0/\(∃(j:Nat) (i:Int),(j:Int)<x.k/\x.aH[j]?=i/\x.bA[i.toNat]?=(s:Int))\/JP w'.ef s
 io2:x'.ae=29->x'.lQ=0->∀(j:Nat) i (s:Nat),(j:Int)<x'.k->x'.aH[j]?=some i->x'.bA[i.toNat]?=(s:Int)->x.ae=29/\x.lQ=0/\(j:Int)<x.k/\x.aH[j]?=i/\x.bA[i.toNat]?=(s:Int)\/JP w'.ef s
 pk:(x'.aR\/0<=x'.aN)->x'.lQ≠0\/(x.aR\/0<=x.aN)/\x'.lQ=x.lQ
 zp:Ra x'->Ra x/\x'.lQ=x.lQ\/x'.lQ=0
 ar:aY6 x'->aY6 x/\x'.bJ=x.bJ\/x'.bJ=w.av
 aw:x'.bJ≠0->aW x'\/x'.lQ≠0\/¬aW x/\x.bJ≠0/\x'.lQ=x.lQ\/0<=x.aN/\x'.lQ=x.lQ
 cm:aT x->∀(s z:Nat) sd,x.br=s->w.ah[s]?=some sd->sd.g=z->∃y',w'.gs[z]?=some y'/\0<=y'.aN/\(z:Int)∈x'.OK
 wk:∀z∈x.OK,z∈x'.OK\/∃(j:Nat) (t:Bool),z=j/\w'.ax[j]?=some (0,t)/\(t\/∃y,w.gs[j]?=some y/\y.ae=14)
 bn:∀(j:Nat) (t:Bool),j≠g->w.ax[j]?=some (0,t)->∃t',w'.ax[j]?=some (0,t')/\(t->t')
 ow:aW x'->x'.lQ≠0->Ra x/\x'.lQ=x.lQ\/aW x/\x'.lQ=x.lQ/\x'.aN=x.aN/\∀t,w.ax[g]?=some (0,t)->(t\/x.ae=14)->∃t',w'.ax[g]?=some (0,t')/\(t'\/x'.ae=14)
 n9:x'.ae=9->w'.ef.len (Uj ((aP x').ai=2\/(aP x').ai=4) (aP x').ch)<=0
 lv:∀(s:Nat) sd',w'.ah[s]?=some sd'->sd'.cK->(∃sd,w.ah[s]?=some sd/\sd.cK/\sd'.g=sd.g/\sd'.case=sd.case/\sd'.ch=sd.ch/\sd'.cF=sd.cF/\(sd.g=g->eP x s sd->eP x' s sd'))\/sd'.g=g/\eP x' s sd'
structure Eff(w w':Wd)(g:Nat)(x x':bI):Prop extends bD5 w w' g x x' where
 me:w'.gs[g]?=x'
 len:w'.gs=w.gs.length
 yf:∀(j:Nat) y',j≠g->w'.gs[j]?=some y'->∃y,w.gs[j]?=some y/\aL2 w' y y'
 ops:x'.ops=x.ops
 c1:∀c,pP w c->pP w' c
 c2:∀c,pP w' c->pP w c\/aL x c/\aH4 x' c
 q:∀k:Int,w'.ef.len k<=w.ef.len k\/¬pP w' (k / 2+1)/\aL x (k / 2+1)
 dr:∀c,aH4 x c->aH4 x' c\/w'.ef.len (2*c-2)<=0/\w'.ef.len (2*c-1)<=0
 r:∀(c:Nat) r,w.au[c]?=some r->w'.au[c]?=r\/aL x ((c:Int)+1)
 s1:∀(j:Nat) y (s:Nat) sd,j≠g->w.gs[j]?=some y->y.aN=(s:Int)->w.ah[s]?=some sd->w'.ah[s]?=sd
 s2:∀(s:Nat) sd,w.ah[s]?=some sd->sd.cK->sd.g≠g\/aW x->∃sd',w'.ah[s]?=some sd'/\sd'.g=sd.g
 wi:x'.bF=x.bF/\x'.lQ=x.lQ\/0<=x'.bF/\x'.lQ≠0\/¬aW x
 a4:aT x'->∀(s z:Nat) sd y,x'.br=s->w'.ah[s]?=some sd->sd.g=z->w'.gs[z]?=some y->0<=y.bF/\y.lQ≠0/\0<=x'.bF
 ds:w'.UB=w.UB
 g2:G2 w' x'
 Yu:Yu x'+Rn w'.ax+3*Xr w'.ef+1<=Yu x+Rn w.ax+3*Xr w.ef
theorem aK3{α:Type}(f:α->Nat):∀{l l':List α} {g:Nat} {a b:α},l'=l.length->l[g]?=a->l'[g]?=b->(∀(j:Nat) i,j≠g->l'[j]?=some i->∃y,l[j]?=some y/\f i=f y)->(l'.map f).sum+f a=(l.map f).sum+f b
 | [],l',g,a,b,_,c,_,_=>by simp at c
 |u::l,[],g,a,b,k,_,d,_=>by simp at d
 |u::l,v::l',0,a,b,k,c,d,h=>by
  simp only[ak5,oZ]at c d;subst c d
  have e:l'.map f=l.map f:=by
   apply ad9;intro j;rw[na,na];simp only[sV]at k;rcases aj8 j l' with m|m
   .obtain⟨y,n,o⟩:=h (j+1) l'[j] oX (by simp[fv m]);grind
   grind
  grind
 |u::l,v::l',g+1,a,b,k,c,d,h=>by
  simp only[bm3,sV]at c d k;have ih:=aK3 f (l:=l) (l':=l') (g:=g) oX c d λj i m n=>h (j+1) i oX (by simpa using n)
  grind [List.getElem?_cons_zero]
section
variable{w2:Wd}{g s:Nat}{x y y':bI}{o:cu}
theorem aO1(x:bI):Yu (core x)=Yu x:=rfl
theorem aS4(x:bI):aP (core x)=aP x:=rfl
theorem aL2.refl(E:Wd)(y:bI):aL2 E y y:=⟨ii,.inl rfl,.inl rfl,.inl rfl⟩
theorem aS5(I:Inv t N)(hx:t.gs[g]?=x)(h:aH0 x Y):aL x Y/\1<=Y/\Y<=t.au:=by
 have L:=bT4;rcases h with⟨h,rfl⟩|⟨h9,c,d,j,i,f,a,k,rfl,l⟩
 .refine⟨?_,L.cZ oX oX oX oX oX⟩;unfold aL cH;rw[aE oX];exact⟨oX,ii⟩
 obtain⟨b,m,n⟩:=bW3;obtain⟨q,r,u,v,A,B⟩:=b.ord i (lf a);grind [KA]
theorem G2.yf(I:Inv t N)(D:t.gs[g]?=x)(d:Eff t E g x e)(F:n≠g)(m:t.gs[n]?=y)(i:aL2 E y y')(G:G2 t y):G2 E y':=by
 have H:∀c,aL y c->1<=c/\c<=t.au.length->¬aL x c:=λc k J K=>F (I.lock.one m D k K (Pd I J))
 have j:∀{β:Type} (f:bI->β),(∀x,f (core x)=f x)->f y'=f y:=λf u=>by rw[<-u y',i.core,u]
 have L:=j aP aS4;have M:=j bI.ae (λ_=>rfl);have Q:=j bI.bJ (λ_=>rfl);refine⟨λc h=>?_,λv A l=>?_,λR=>?_,λs q=>?_,λc h=>d.c1 c (G.cl c ((j (λx=>aH4 x c) (λ_=>rfl))▸h)),(j (λx=>KO x.aH x.aq x.bA) (λ_=>rfl))▸G.sh⟩
 .have B:aH0 y c:=by have:=j (λx=>aH0 x c) (λ_=>rfl);exact this▸h
  obtain⟨a,b⟩:=aS5 I m B;intro l;rcases d.c2 c l with k|⟨k,_⟩
  .exact G.nc c B k
  exact H c a b k
 .rw[L]at v l ⊢;rw[M]at A;have B:=(I.loc n y m).cZ oX oX oX oX oX;have S:aL y (aP y).ch:=by unfold aL cH;rw[aE oX];exact⟨oX,ii⟩
  rcases d.c2 _ l with k|⟨k,_⟩
  .obtain⟨r,a,b⟩:=G.eU v A k;rcases d.r _ r a with a|a
   .exact⟨r,a,b⟩
   rw[show((((aP y).ch-1).toNat:Int)+1)=(aP y).ch by omega]at a;simp_all
  grind
 .rw[Q]at R;have:=j aw0 (λ_=>rfl);grind [G2.early]
 rcases i.par with h|h
 .rw[h]at q;rcases G.par s q with h|⟨sd,a,b⟩
  .grind [aL2.bF]
  grind [Eff.s1]
 exact h s q
theorem Eff.fin(I:Inv t N)(J:Inv2 t)(l:t.gs[g]?=x)(d:Eff t E g x e):Inv2 E/\work E+1<=work t:=by
 refine⟨⟨λj y' f=>?_,λj A s z B y' D m k H n f=>?_,λc Q=>?_,by rw[d.ds];exact J.ds,by rw[d.st];exact J.stp,λj y' f r=>?_⟩,?_⟩
 .by_cases i:j=g
  .rw[i,d.me]at f;cases f;exact d.g2
  obtain⟨y,a,b⟩:=d.yf j y' i f;exact(J.g2 j y a).yf I l d i a b
 .by_cases i:j=g
  .rw[i,d.me]at D;cases D;exact d.a4 m s z B y' k H n f
  obtain⟨u,a,b⟩:=d.yf j A i D
  have m:aT u:=by
               have:aT (core A)=aT (core u):=by rw[b.core]
               exact this.mp m
  have k:u.br=s:=by have:=congrArg bI.br b.core;exact this.symm.trans k
  obtain⟨F,v,sd,y,U,K,R,S,W,G,X,Y,Z,_⟩:=I.claim j u a m;obtain rfl:F=s:=oX
  obtain⟨AU,M,b2⟩:=d.s2 F sd K R (by
   by_cases n:v=g
   .grind
   left;omega)
  rw[H]at M;cases M;obtain rfl:v=z:=oX
  obtain⟨hw,nt,xY⟩:=J.a4 j u F v sd y a m k K S G;have hu3:0<=A.bF:=by have:=b.bF;omega
  by_cases n:v=g
  .subst n;rw[l]at G;cases G;rw[d.me]at f;cases f;have:=d.wi;grind
  obtain⟨T,c1,c2⟩:=d.yf v y' n f;grind [aL2.bF,aL2.pt]
 .rcases d.c2 c Q with h|⟨_,h⟩
  .have v:=d.q (2*c-2);have F:=d.q (2*c-1);rw[show(2*c-2) / 2+1=c by omega]at v;rw[show(2*c-1) / 2+1=c by omega]at F;rcases J.dr c h with⟨d1,d2⟩|⟨j,y,d1,d2⟩
   .grind
   by_cases i:j=g
   .rw[i,l]at d1;cases d1;rcases d.dr c d2 with h|h
    .exact .inr ⟨g,e,d.me,h⟩
    exact .inl h
   right;have G:=um d1;have K:=d.len;have f:E.gs[j]?=some (E.gs[j]' oX):=fv oX;obtain⟨T,c1,c2⟩:=d.yf j _ i f;rw[d1]at c1;cases c1;refine⟨j,_,f,?_⟩;have:aH4 (core _) c=aH4 (core _) c:=congrArg (aH4 · c) c2.core;exact this.mpr d2
  exact .inr ⟨g,e,d.me,h⟩
 .by_cases i:j=g
  .rw[i,d.me]at f;cases f;exact d.n9 r
  obtain⟨y,a,b⟩:=d.yf j y' i f
  have G:aP y'=aP y:=by
                  have:aP (core y')=aP (core y):=by rw[b.core]
                  exact this
  have r:y.ae=9:=by have:=congrArg bI.ae b.core;exact this.symm.trans r
  have L:=I.loc j y a;have v:=bU4;have F:(aP y).ai≠9:=by intro h;rw[h,r]at v;simp[bG]at v
  have K:=L.cZ F oX oX oX oX;have k:aL y (aP y).ch:=by unfold aL cH;rw[aE F];exact⟨oX,ii⟩
  have M:=J.n9 j y a r;rw[G];rcases d.q (Uj (decide ((aP y).ai=2\/(aP y).ai=4)) (aP y).ch)with h|⟨_,h⟩
  .omega
  rw[show Uj (decide ((aP y).ai=2\/(aP y).ai=4)) (aP y).ch / 2+1=(aP y).ch by unfold Uj;split<;>omega]at h;exact aX (I.lock.one a l k h (Pd I K)) i
 have F:=aK3 V.Yu d.len l d.me λj y' i v=>by obtain⟨y,a,b⟩:=d.yf j y' i v;exact⟨y,a,by rw[<-aO1 y',b.core,aO1]⟩
 have G:=d.Yu;unfold work;omega
end
section
variable{w w':Wd}{g s:Nat}{x x' y y':bI}{o:cu}{q q':er}
theorem xQ.Xr(Q:xQ q N):Xr q=(N.map List.length).sum:=by
 have e:q.bM.map (λl=>l.count.toNat)=N.map List.length:=by
  apply ad9;intro k;rw[na,na]
  cases a:N[k]? with
  |none=>
   grind [len]
  |some l=>rw[Q.line k l a];simp
 unfold V.Xr;rw[e]
theorem aJ9(s:Nat):∀N:ap,((N.map (·.erase s)).map List.length).sum<=(N.map List.length).sum/\(∀(k:Nat) l,N[k]?=some l->s∈l->((N.map (·.erase s)).map List.length).sum+1<=(N.map List.length).sum)
 | []=>⟨rx _,λk l h=>cj5⟩
 |m::N=>by obtain⟨a,b⟩:=aJ9 s N;grind
theorem bt8(Q:xQ q N):JP q s↔∃(k:Nat) (l:bv),N[k]?=l/\s∈l:=by
 constructor
 .rintro⟨t,d,c⟩;refine ww λh=>c ?_
  grind [xQ.out]
 rintro⟨k,l,d,c⟩;obtain⟨a,b,rfl⟩:=al8 c;exact⟨_,Q.thing k a b s d,ci9⟩
theorem bo5(Q:xQ q N)(a:xQ q' (iA N s))(c:b≠s)(h:JP q b):JP q' b:=by
 obtain⟨k,l,d,e⟩:=(bt8 Q).1 h;exact(bt8 a).2 ⟨k,l.erase s,by unfold iA;rw[na,d];rfl,(List.mem_erase_of_ne c).2 e⟩
theorem aJ2(I:Inv w N)(r:s<w.ah)(e:E.ef=w.ef)(h:fZ E s=w'):∃q',w'={E with ef:=q'}/\(∀k:Int,q'.len k<=w.ef.len k)/\Xr q'<=Xr w.ef/\(∀(k:Nat) l,N[k]?=some l->s∈l->Xr q'+1<=Xr w.ef)/\∀t,t≠s->JP w.ef t->JP q' t:=by
 have u:=I.aS;have i:=I.JZ;obtain⟨q',v,a,b,c⟩:=bS9;unfold fZ at h;rw[e,a]at h
 cases h;have f:=aJ9 s N;refine⟨q',ii,λk=>?_,?_,λk l j m=>?_,λt p h=>?_⟩
 .by_cases d:0<=k
  .obtain⟨n,rfl⟩:=pz d;rw[I.q.aS1,b.aS1];grind [iA]
  unfold er.len idx;rw[aE d,aE d];simp
 .rw[I.q.Xr,b.Xr];exact f.1
 .rw[I.q.Xr,b.Xr];exact f.2 k l j m
 exact bo5 I.q b p h
theorem aO2{l e:Ct}(h:q'.bM=q.bM.set Y.toNat e)(c:idx q.bM Y=l)(k:e.count=l.count+1):(∀d:Int,q'.len d<=q.len d\/d=Y)/\Xr q'<=Xr q+1:=by
 unfold idx at c;split at c
 .rename_i m;refine⟨λd=>?_,?_⟩
  .grind [er.len,idx]
  have:=aK3 (λl:Ct=>l.count.toNat) (l:=q.bM) (l':=q'.bM) (g:=Y.toNat) (a:=l) (b:=e) cu4 c (by rw[h,nH (um c)]) λj y' i f=>⟨y',by rw[h,oA (dE i)]at f;exact f,ii⟩
  unfold Xr;omega
 cases c
theorem by7{a:List nf}{A:nf}(c:A.pX≠ -1){s:Nat}(h:∃t,a[s]?=some t/\t.pX≠ -1):∃t,(a.set b A)[s]?=some t/\t.pX≠ -1:=by
 grind
theorem aO3{t:Int}(h:lh w Y t=w'):∃q',w'={w with ef:=q'}/\(∀f:Int,q'.len f<=w.ef.len f\/f=Y)/\Xr q'<=Xr w.ef+1/\(∀s,JP w.ef s->JP q' s)/\∀s:Nat,t=s->s<w.ef.aS->(idx w.ef.bM Y).isSome->JP q' s:=by
 unfold lh at h;obtain⟨⟨q',b⟩,c,rfl⟩:=aH5.1 h;refine⟨q',ii,?_⟩;unfold er.push at c;split at c
 .rename_i l j d k;have m:Y≠ -1:=by rintro rfl;simp[idx]at d
  have p:0<=t/\w.ef.aS[t.toNat]?=j:=by unfold idx at k;split at k<;>simp_all
  split at c
  .rename_i i
   cases c;exact⟨λf=> .inl (ae1 _),oX,λs h=>h,λs e _ _=>⟨j,by rw[<-p.2,e];rfl,i⟩⟩
  split at c
  .cases c
  split at c
  .cases c;refine⟨(aO2 (l:=l) ii d ii).1,(aO2 (l:=l) ii d ii).2,λs h=>by7 m h,λs e i _=>?_⟩;subst e;exact⟨_,nH i,m⟩
  simp only[bW,cI]at c;obtain⟨y,_,r,A,c⟩:=c;split at c
  .cases c
  rename_i B
  cases c;have n:∀s:Nat,(∃u,w.ef.aS[s]?=some u/\(u.pX≠ -1\/s=t.toNat))->JP (((w.ef.fJ t.toNat {pX:=Y,behind:= -1,ahead:=l.last}).fJ y {r with behind:=t}).fe Y.toNat {l with last:=t,count:=l.count+1}) s:=by rintro s ⟨u,D,F⟩;show ∃v,((w.ef.aS.set t.toNat _).set y _)[s]?=some v/\v.pX≠ -1;grind
  exact⟨(aO2 (l:=l) ii d ii).1,(aO2 (l:=l) ii d ii).2,λs ⟨u,a,b⟩=>n s ⟨u,a,.inl b⟩,λs e i _=>n s ⟨_,fv i,.inr oX⟩⟩
 rename_i j
 cases c;refine⟨λf=> .inl (ae1 _),oX,λs h=>h,λs e i d=>?_⟩;subst e;obtain⟨l,d⟩:=Option.isSome_iff_exists.1 d;exact aX (j l _ d (by unfold idx;rw[aF oX];exact fv i)) sX
theorem bf8(I:Inv w N)(h:0<=Y/\Y<16):(idx w.ef.bM Y).isSome:=by
 have:=I.q.len;have:=I.bM;unfold idx;grind
section
variable{b:List (Int×Bool)}
theorem aI9{a c:Int×Bool}(h:b[n]?=a):Rn (b.set n c)+(if a.1=2 then 0 else 1)=Rn b+(if c.1=2 then 0 else 1):=
 aK3 (λs:Int×Bool=>if s.1=2 then 0 else 1) sX h (by rw[nH (um h)]) λj y' e d=>⟨y',by rw[oA (dE e)]at d;exact d,ii⟩
theorem aK0{a:Int}(h:bU b Y=a)(c:a≠2):∃t,b[Y.toNat]?=some (a,t):=by
 grind [bU,idx]
theorem aK4:Rn (tD b Y).1=Rn b:=by
 unfold tD;by_cases h:bU b Y≠0
 .rw[aF h]
 rw[aE h];obtain⟨t,a⟩:=aK0 (Classical.not_not.1 h) oX;grind [aI9]
end
theorem aO4(b:List (Int×Bool))(i:Int):Rn (ready b i).1=Rn b:=by
 unfold ready;by_cases h:bU b i=1
 .rw[aF h];obtain⟨t,c⟩:=aK0 h oX;grind [aI9]
 rw[aE h];by_cases a:bU b i=0/\token b i=false
 .rw[aF a];obtain⟨t,c⟩:=aK0 a.1 oX;grind [aI9]
 rw[aE a]
theorem aU3{b:List (Int×Bool)}(h:∃t,b[n]?=some (0,t)):Rn (Av b n).1+1=Rn b:=by
 obtain⟨t,h⟩:=h;have a:bU b n=0:=by unfold bU idx;rw[aF oX,oU,h];rfl
 unfold Av;rw[aE oX];grind [aI9]
theorem bw5(h:aW x):¬told x:=by unfold aW told at*;omega
structure Own(w w':Wd)(g:Nat)(x x':bI):Prop where
 hx:w.gs[g]?=x
 gs:w'.gs=w.gs.set g x':=by rfl
 ops:x'.ops=x.ops:=by rfl
 c1:∀c,pP w c->pP w' c:=by exact λ_ h=>h
 c2:∀c,pP w' c->pP w c\/aL x c/\aH4 x' c:=by exact λ_ h=> .inl h
 q:∀k:Int,w'.ef.len k<=w.ef.len k\/¬pP w' (k / 2+1)/\aL x (k / 2+1):=by exact λ_=> .inl (ae1 _)
 dr:∀c,aH4 x c->aH4 x' c\/w'.ef.len (2*c-2)<=0/\w'.ef.len (2*c-1)<=0:=by(intro c h;exact aX h.1 (by omega))
 r:∀(c:Nat) r,w.au[c]?=some r->w'.au[c]?=r\/aL x ((c:Int)+1):=by exact λ_ _ h=> .inl h
 s1:∀(j:Nat) y (s:Nat) sd,j≠g->w.gs[j]?=some y->y.aN=(s:Int)->w.ah[s]?=some sd->w'.ah[s]?=sd:=by exact λ_ _ _ _ _ _ _ h=>h
 s2:∀(s:Nat) sd,w.ah[s]?=some sd->sd.cK->sd.g≠g\/aW x->∃sd',w'.ah[s]?=some sd'/\sd'.g=sd.g:=by exact λ_ sd h _ _=>⟨sd,h,ii⟩
 wi:x'.bF=x.bF/\x'.lQ=x.lQ\/0<=x'.bF/\x'.lQ≠0\/¬aW x:=by first|exact .inl ⟨ii,ii⟩|(refine .inr (.inr ?_);unfold aW;omega)
 a4:¬aT x':=by(unfold aT;simp only;omega)
 dn:∀d∈w'.done,d∈w.done\/d=qu x g w.av/\told x/\x'.ae=0/\0<=x.at_/\x.at_<x.ops:=by exact λ_ h=> .inl h
 ds:w'.UB=w.UB:=by rfl
 g2:G2 w' x'
 Yu:Yu x'+Rn w'.ax+3*Xr w'.ef+1<=Yu x+Rn w.ax+3*Xr w.ef
 st:w'.av=w.av:=by rfl
 rl:w.au<=w'.au.length:=by first|exact rx _|simp[Wd.dZ]
 tl:told x'->told x/\qu x' g 0=qu x g 0/\aP x'=aP x\/bk3 w' w.av (qu x' g 0) (aP x'):=by first|(refine λh=>aX h ?_;unfold told;simp;done)|(refine λh=>aX h ?_;unfold told;simp only;omega;done)|(refine λ_=> .inl ⟨?_,ii,ii⟩;unfold told;omega)|exact λh=> .inl ⟨h,ii,ii⟩
 tu:bA5 w w' x x':=by(refine .inr (.inr ⟨?_,?_,ii,ii,ii,.inl rfl,?_⟩);omega;first|(simp;done)|(simp only;omega);first|exact .inl rfl|exact .inr (.inl rfl))
 iq:∀s sd,JP w.ef s->w.ah[s]?=some sd->JP w'.ef s\/∃(z:Nat) (y':bI),sd.g=z/\w'.gs[z]?=y'/\(y'.lQ≠0\/y'.aR):=by exact λ_ _ h _=> .inl h
 io:x'.lQ=0->x'.bJ≠0->∀s,aZ1 x' s->x.lQ=0/\x.bJ≠0/\aZ1 x s\/x.ae=29/\x.lQ=0/\(∃(j:Nat) (i:Int),(j:Int)<x.k/\x.aH[j]?=i/\x.bA[i.toNat]?=(s:Int))\/JP w'.ef s:=by exact λh1 h2 s h3=> .inl ⟨h1,h2,h3⟩
 io2:x'.ae=29->x'.lQ=0->∀(j:Nat) i (s:Nat),(j:Int)<x'.k->x'.aH[j]?=some i->x'.bA[i.toNat]?=(s:Int)->x.ae=29/\x.lQ=0/\(j:Int)<x.k/\x.aH[j]?=i/\x.bA[i.toNat]?=(s:Int)\/JP w'.ef s:=by first|(refine λh=>aX h ?_;simp;done)|(refine λh=>aX h ?_;simp only;omega)
 pk:(x'.aR\/0<=x'.aN)->x'.lQ≠0\/(x.aR\/0<=x.aN)/\x'.lQ=x.lQ:=by first|exact λh=> .inr ⟨h,ii⟩|(refine λ_=> .inl ?_;have:=(‹Inv2 _›:Inv2 _).stp;simp only;omega)
 zp:Ra x'->Ra x/\x'.lQ=x.lQ\/x'.lQ=0:=by first|(refine λh=>aX h ?_;unfold Ra;simp;done)|(refine λh=>aX h ?_;unfold Ra;simp only;omega;done)|(refine λh=>aX h ?_;unfold Ra;simp only[aP]at*;omega)
 ar:aY6 x'->aY6 x/\x'.bJ=x.bJ\/x'.bJ=w.av:=by first|(refine λh=>aX h ?_;unfold aY6;simp;done)|(refine λh=>aX h ?_;unfold aY6;simp only;omega;done)|(refine λh=> .inl ⟨?_,ii⟩;unfold aY6 at*;simp only at h;omega)|exact λh=> .inl ⟨h,ii⟩
 aw:x'.bJ≠0->aW x'\/x'.lQ≠0\/¬aW x/\x.bJ≠0/\x'.lQ=x.lQ\/0<=x.aN/\x'.lQ=x.lQ:=by first|(refine λh=> .inr (.inr (.inl ⟨?_,h,ii⟩));unfold aW;omega)|(refine λ_=> .inr (.inl ?_);have:=(‹Inv2 _›:Inv2 _).stp;simp only;omega)|exact λh=>aX ii h|exact λh=>(Classical.em (aW x)).elim .inl λhn=> .inr (.inr (.inl ⟨hn,h,ii⟩))
 nc:¬aT x:=by(unfold aT;omega)
 wk:∀z∈x.OK,z∈x'.OK\/∃(j:Nat) (t:Bool),z=j/\w'.ax[j]?=some (0,t)/\(t\/∃y,w.gs[j]?=some y/\y.ae=14):=by exact λ_ h=> .inl h
 bn:∀(j:Nat) (t:Bool),j≠g->w.ax[j]?=some (0,t)->∃t',w'.ax[j]?=some (0,t')/\(t->t'):=by exact λ_ t _ h=>⟨t,h,id⟩
 ow:aW x'->x'.lQ≠0->Ra x/\x'.lQ=x.lQ\/aW x/\x'.lQ=x.lQ/\x'.aN=x.aN/\∀t,w.ax[g]?=some (0,t)->(t\/x.ae=14)->∃t',w'.ax[g]?=some (0,t')/\(t'\/x'.ae=14):=by first|(refine λh=>aX h ?_;unfold aW;simp;done)|(refine λh=>aX h ?_;unfold aW;simp only;omega;done)|(refine λh _=> .inr ⟨?_,ii,ii,λt h1 h2=>⟨t,h1,h2.imp id λh=>?_⟩⟩;unfold aW;omega;first|exact h|(exfalso;omega))|exact λh _=> .inr ⟨h,ii,ii,λt a b=>⟨t,a,b⟩⟩
 n9:x'.ae=9->w'.ef.len (Uj ((aP x').ai=2\/(aP x').ai=4) (aP x').ch)<=0:=by first|(refine λh=>aX h ?_;simp;done)|(refine λh=>aX h ?_;simp only;omega)
 lv:∀(s:Nat) sd',w'.ah[s]?=some sd'->sd'.cK->(∃sd,w.ah[s]?=some sd/\sd.cK/\sd'.g=sd.g/\sd'.case=sd.case/\sd'.ch=sd.ch/\sd'.cF=sd.cF/\(sd.g=g->eP x s sd->eP x' s sd'))\/sd'.g=g/\eP x' s sd':=by exact λs sd h hl=> .inl ⟨sd,h,hl,ii,ii,ii,ii,λ_ h=>h⟩
theorem aI1(h:w'.aO=w.aO)(c:Int):pP w' c↔pP w c:=by unfold pP;rw[h]
def aH2(w w':Wd)(g:Nat)(x:bI):Prop:=∃x',Eff w w' g x x'
theorem Own.pR(a:Own w w' g x x'):aH2 w w' g x:=
 ⟨x',{st:=a.st,rl:=a.rl,tl:=a.tl,dn:=a.dn,ot:=λj y y' c b d=> .inl (by rw[a.gs,gd c,b]at d;exact(mx d).symm),tu:=a.tu,iq:=a.iq,io:=a.io,io2:=a.io2,pk:=a.pk,zp:=a.zp,ar:=a.ar,aw:=a.aw,cm:=λh=>aX h a.nc,wk:=a.wk,bn:=a.bn,ow:=a.ow,n9:=a.n9,lv:=a.lv,me:=by rw[a.gs];exact di _ a.hx,len:=by rw[a.gs];simp,yf:=λj y' c b=>⟨y',by rw[a.gs,gd c]at b;exact b,aL2.refl _ _⟩,ops:=a.ops,c1:=a.c1,c2:=a.c2,q:=a.q,dr:=a.dr,r:=a.r,s1:=a.s1,s2:=a.s2,wi:=a.wi,a4:=λh=>aX h a.a4,ds:=a.ds,g2:=a.g2,Yu:=a.Yu}⟩
theorem aI2(h:¬(6<=x.ae/\x.ae<=11)/\¬(25<=x.ae/\x.ae<=29))(c:Int):¬aH0 x c:=by
 rintro(⟨a,_⟩|⟨_,a,b,_⟩)<;>omega
theorem G2.pre(L:Loc X x)(G:G2 w x)(d:¬aw0 x)(e:¬aW x)(f:x'.bJ=x.bJ)(n:x'.aN=x.aN)(i:∀c,aH0 x' c->¬pP w' c)(j:x'.ae=9->(aP x').ai=3->pP w' (aP x').ch->∃r,w'.au[((aP x').ch-1).toNat]?=some r/\0<r.count)(k:∀c,aH4 x' c->pP w' c)(l:KO x.aH x.aq x.bA->KO x'.aH x'.aq x'.bA:=by exact λh=>h):G2 w' x':=by
 have m:x'.bJ=0:=by rw[f];exact ww λh=>d (G.early h)
 refine⟨i,λa b=>j b a,λh=>aX m h,λs p=>?_,k,l G.sh⟩;have:=L.aN.2 e;omega
theorem G2.keep(G:G2 w x)(f:x'.bJ=x.bJ)(i:x'.aN=x.aN)(j:x'.bF=x.bF)(n:∀s:Nat,x.aN=s->w'.ah[s]?=w.ah[s]?)(k:aw0 x->aw0 x')(l:¬(6<=x'.ae/\x'.ae<=11)/\¬(25<=x'.ae/\x'.ae<=29))(d:¬(x'.ae=22\/x'.ae=23):=by(simp only;omega))(m:KO x.aH x.aq x.bA->KO x'.aH x'.aq x'.bA:=by exact λh=>h):G2 w' x':=by
 refine⟨λc h=>aX h (aI2 l c),λ_ h=>oX,λh=>k (G.early (by rw[<-f];exact h)),λs e=>?_,λc h=>aX h.1 d,m G.sh⟩;rw[j];rw[i]at e;rcases G.par s e with h|⟨sd,a,b⟩
 .exact .inl h
 grind
theorem aO5(n:Nat)(h:x.ae=n)(a:n≠0):Yu x=aH7 (x.ops.drop (x.at_.toNat+1))+pQ n x.aH x.aq x.k.toNat+x.OK:=by
 unfold Yu;rw[aE oX,h,oU]
theorem aJ6(a:(aP x).ai≠9):aH0 x Y↔((aP x).ai=2/\6<=x.ae/\x.ae<=11\/(aP x).ai=3/\(6<=x.ae/\x.ae<=8\/x.ae=10\/x.ae=11))/\Y=(aP x).ch:=by
 grind [aH0]
theorem aO6(n c:Nat)(h:x.ae=n)(d:x'.ae=c)(e:x'.ops=x.ops)(f:x'.at_=x.at_){a:Nat}(i:n≠0/\c≠0)(p:pQ c x'.aH x'.aq x'.k.toNat+x'.OK+a<=pQ n x.aH x.aq x.k.toNat+x.OK+b):Yu x'+a<=Yu x+b:=by
 grind [aO5]
theorem aT4(n a:Nat)(h:x.ae=n:=by assumption)(c:x'.ae=a:=by rfl)(d:x'.ops=x.ops:=by rfl)(e:x'.at_=x.at_:=by rfl)(b:n≠0/\a≠0:=by decide)(p:pQ a x'.aH x'.aq x'.k.toNat+x'.OK+1<=pQ n x.aH x.aq x.k.toNat+x.OK:=by(simp only[pQ,aU7,sV,aj6];omega)):Yu x'+1<=Yu x:=by
 rw[aO5 n h b.1,aO5 a c b.2,d,e];omega
theorem aI4(n a:Nat)(h:x.ae=n:=by assumption)(h':x'.ae=a:=by rfl)(c:x'.ops=x.ops:=by rfl)(d:x'.at_=x.at_:=by rfl)(b:n≠0/\a≠0:=by decide)(eb:Rn w'.ax=Rn w.ax:=by rfl)(p:pQ a x'.aH x'.aq x'.k.toNat+x'.OK+3*Xr w'.ef+1<=pQ n x.aH x.aq x.k.toNat+x.OK+3*Xr w.ef:=by(simp only[pQ,Wd.ay,Wd.cJ,Wd.dZ,aU7,sV,aj6];omega)):Yu x'+Rn w'.ax+3*Xr w'.ef+1<=Yu x+Rn w.ax+3*Xr w.ef:=by
 rw[aO5 n h b.1,aO5 a h' b.2,c,d];omega
theorem bg7{m:Ex}(h:m.res.aJ≠1):bk3 w Y m o:=⟨λ_ a=>aX a.2.1 h,λ_ a=>aX a.2.1 h,λ_ a=>aX a.2.1 h⟩
theorem aY7{m:Ex}(b:o.ai≠1/\o.ai≠6)(h:∀d,bc4 o m d->w.ef.len (Uj d.cF d.ch)<=0):bk3 w Y m o:=⟨λ_ a=>aX a.1 b.1,λ_ a=>aX a.1 b.2,h⟩
theorem bw6{m:Ex}(b:o.ai=3\/o.ai=5)(h:m.res.ok=false):bk3 w Y m o:=aY7 oX λd a=>by
 have e:d.cF=false:=by have:=a.2.2.1;grind [Xq]
 have:=a.2.2.2 e;grind
theorem aH3(I:Inv w N)(J:Inv2 w)(f:w.gs[g]?=x)(x':bI)(n m:Nat)(e1:w'.gs=w.gs.set g x':=by exact ii)(L:x.ae=n:=by assumption)(hn':x'.ae=m:=by rfl)(M:n≠0/\m≠0:=by decide)(hm:¬aw0 x/\¬aW x:=by(unfold aw0 aW;omega))(hd:∀c,aH4 x c->aH4 x' c:=by(intro c h;exact aX h.1 (by omega)))(e2:w'.aO=w.aO:=by rfl)(e3:w'.ef=w.ef:=by rfl)(e4:∀(c:Nat) r,w.au[c]?=some r->w'.au[c]?=r\/aL x ((c:Int)+1):=by exact λ_ _ h=> .inl h)(e5:w'.ah=w.ah:=by rfl)(e6:w'.done=w.done:=by rfl)(e9:w'.UB=w.UB:=by rfl)(e7:w'.ax=w.ax:=by rfl)(u:x'.ops=x.ops:=by rfl)(D:x'.at_=x.at_:=by rfl)(i:x'.bJ=x.bJ:=by rfl)(F:x'.aN=x.aN:=by rfl)(Z:x'.bF=x.bF:=by rfl)(hc:¬aT x':=by(unfold aT;simp only;omega))(nc:∀c,aH0 x' c->¬pP w c:=by exact λc h=>aX h (aI2 (by simp) c))(eU:x'.ae=9->(aP x).ai=3->pP w (aP x).ch->∃r,w'.au[((aP x).ch-1).toNat]?=some r/\0<r.count:=by(intro h;simp at h))(cl:∀c,aH4 x' c->pP w c:=by(intro c h;exact aX h.1 (by simp)))(sh:KO x.aH x.aq x.bA->KO x'.aH x'.aq x'.bA:=by exact λh=>h)(pt:pQ m x'.aH x'.aq x'.k.toNat+x'.OK+1<=pQ n x.aH x.aq x.k.toNat+x.OK:=by(simp only[pQ];omega))(st:w'.av=w.av:=by rfl)(rl:w.au<=w'.au.length:=by first|exact rx _|simp[Wd.dZ,Wd.ay])(tl:told x'->told x/\qu x' g 0=qu x g 0/\aP x'=aP x\/bk3 w' w.av (qu x' g 0) (aP x'):=by first|(refine λh=>aX h ?_;unfold told;simp;done)|(refine λh=>aX h ?_;unfold told;simp only;omega;done)|(refine λ_=> .inl ⟨?_,ii,ii⟩;unfold told;omega)|(refine λ_=> .inr (bg7 ?_);simp[qu,bZ];done)|(refine λ_=> .inr (bw6 ?_ rfl);first|assumption|(left;assumption)|(right;assumption)))(Q:x'.aH=x.aH:=by rfl)(G:x'.ae≠19/\x'.ae≠29:=by first|(simp;done)|(simp only;omega))(R:x'.call=x.call:=by rfl)(l:x'.lQ=x.lQ\/x'.lQ=w.av\/x'.lQ=0/\(aP x).ai≠9:=by first|exact .inl rfl|exact .inr (.inl rfl)|(refine .inr (.inr ⟨ii,?_⟩);omega))(ow:∀(s:Nat) sd,eP x s sd->eP x' s sd:=by exact λ_ _ h=>h)(S:x'.aR=x.aR:=by rfl)(T:Ra x'->Ra x/\x'.lQ=x.lQ\/x'.lQ=0:=by first|(refine λh=>aX h ?_;unfold Ra;simp;done)|(refine λh=>aX h ?_;unfold Ra;simp only;omega;done)|(refine λh=> .inl ⟨.inl ⟨h.elim (·.1) λh=>aX h ?_,?_⟩,ii⟩;simp;omega)|exact λ_=> .inr rfl|(refine λh=>aX h ?_;rintro(⟨h1,_⟩|h1)<;>simp only[aP]at*<;>omega))(nw:¬aW x'/\¬aY6 x':=by(unfold aW aY6;first|(simp;done)|(simp only;omega)))(v:x'.OK=x.OK:=by rfl)(A:¬aT x:=by(unfold aT;omega))(n9:x'.ae=9->w'.ef.len (Uj ((aP x').ai=2\/(aP x').ai=4) (aP x').ch)<=0:=by first|(refine λh=>aX h ?_;simp;done)|(refine λh=>aX h ?_;simp only;omega)):aH2 w w' g x:=by
 have H:aP x'=aP x:=oM u D;have B:x.bJ=0:=ww λh=>hm.1 ((J.g2 g x f).early h)
 have oE:=(I.loc g x f).aN.2 hm.2;have U:x'.lQ=0->x'.bJ≠0->False:=λ_ h=>h (i.trans B)
 refine Own.pR (x':=x') {hx:=f,gs:=e1,ops:=u,c1:=λc h=>(aI1 e2 c).2 h,c2:=λc h=> .inl ((aI1 e2 c).1 h),q:=λk=> .inl (by rw[e3];exact ae1 _),dr:=λc h=> .inl (hd c h),r:=e4,s1:=λ_ _ _ _ _ _ _ h=>by rw[e5];exact h,s2:=λ_ sd h _ _=>⟨sd,by rw[e5];exact h,ii⟩,wi:=.inr (.inr hm.2),a4:=hc,dn:=λd h=> .inl (by rw[<-e6];exact h),ds:=e9,g2:= ?_,Yu:= ?_,st:=st,rl:=rl,tl:=tl,tu:=.inr (.inr ⟨oX,G.1,H,R,Q,.inl i,l.imp id λh=>h.imp id λh=>⟨h.1,i.trans B⟩⟩),iq:=λs sd h _=> .inl (by rw[e3];exact h),io:=λh1 p=>(U h1 p).elim,io2:=λh=>aX h G.2,pk:=λh=>?_,zp:=T,ar:=λh=>aX h nw.2,aw:=λh=>aX (i.trans B) h,nc:=A,wk:=λz h=> .inl (by rw[v];exact h),bn:=λj t _ h=>⟨t,by rw[e7];exact h,id⟩,ow:=λh=>aX h nw.1,n9:=n9,lv:=λs sd h W=> .inl ⟨sd,by rw[<-e5];exact h,W,ii,ii,ii,ii,λ_=>ow s sd⟩}
 .exact G2.pre (I.loc g x f) (J.g2 g x f) hm.1 hm.2 i F (λc h Y=>nc c h ((aI1 e2 c).1 Y)) (λh1 p K=>by rw[H]at p K ⊢;exact eU h1 p ((aI1 e2 _).1 K)) (λc h=>(aI1 e2 c).2 (cl c h)) sh
 .have:=aO6 n m L hn' u D M (a:=1) (b:=0) oX;rw[e3,e7];omega
 rw[S,F]at h;rcases l with e|e|⟨_,e⟩
 .exact .inr ⟨h,e⟩
 .left;have:=J.stp;omega
 exfalso;have:=((I.loc g x f).plain e).2.2;rcases h with h|h
 .rw[this]at h;cases h
 omega
theorem aT8(I:Inv w N)(h:1<=Y/\Y<=w.au):dK w Y=true↔pP w Y:=by
 grind [Fs,pP]
theorem aJ3{c0:Nat}{r':Ring}(a:aL x ((c0:Int)+1))(c:Nat)(r:Ring)(h:w.au[c]?=r):(w.au.set c0 r')[c]?=r\/aL x ((c:Int)+1):=by
 grind
section
variable(I:Inv w N)(J:Inv2 w)(hx:w.gs[g]?=x)
include I J hx
theorem aM5(a:(aP x).ai=4)(b:x.ae=(1:Nat))(h:aW7 w g (aP x).ch=w'):aH2 w w' g x:=by
 unfold aW7 at h;simp only[bW,cI]at h;obtain⟨room,_,h⟩:=h;split at h
 .rw[aX9 hx]at h;cases h;exact aH3 I J hx _ 1 4
 rw[qK hx]at h;cases h;exact aH3 I J hx _ 1 2
theorem aL3(a:(aP x).ai=4)(b:x.ae=(2:Nat))(h:jG w g (aP x).ch=w'):aH2 w w' g x:=by
 unfold jG at h;split at h
 .rw[qK hx]at h;cases h;exact aH3 I J hx _ 2 4
 rw[qK hx]at h;cases h;exact aH3 I J hx _ 2 18
theorem aL4(a:(aP x).ai=2\/(aP x).ai=4)(b:x.ae=(5:Nat))(h:jH w g (aP x).ch=w'):aH2 w w' g x:=by
 have hm:=bW4;unfold jH at h;split at h
 .rw[qK hx]at h;cases h;exact aH3 I J hx _ 5 16
 rename_i hc;rw[aX9 hx]at h;cases h;exact aH3 I J hx _ 5 6 (nc:=λc h=>cy3)
end
theorem bx8(J:Inv2 w)(a:w.gs[g]?=x)(b:x.ae=(9:Nat)){m:Ex}{d:Case}(f:2<=(aP x).ai/\(aP x).ai<=5)(h:bc4 (aP x) m d):w.ef.len (Uj d.cF d.ch)<=0:=by
 have c:=J.n9 g x a b;have e:d.cF=decide ((aP x).ai=2\/(aP x).ai=4)/\d.ch=(aP x).ch:=by have:=h.2.2.1;grind [Xq]
 rw[e.1,e.2];exact c
theorem aM6(I:Inv w N)(J:Inv2 w)(hx:w.gs[g]?=x)(j:(aP x).ai=2\/(aP x).ai=4)(hp:x.ae=(9:Nat))(h:jY w g (aP x)=w'):aH2 w w' g x:=by
 have e:=bW4;have hh:aL x (aP x).ch:=cx8
 obtain⟨f,r,i,k⟩:=gz I e;unfold jY aH8 at h;simp only[f,i,dt,bW,eN]at h;have kt:(w.dZ ((aP x).ch-1).toNat (r.put (aP x).v).1).gs[g]?=x:=hx;have hr:=aJ3 (w:=w) (c0:=((aP x).ch-1).toNat) (r':=(r.put (aP x).v).1) (x:=x) cu0;split at h
 .exact cc6
 split at h
 .rw[qK kt]at h;cases h;exact aH3 I J hx _ 9 16 (e4:=hr)
 rw[aX9 kt]at h;cases h;exact aH3 I J hx _ 9 10 (e4:=hr) (nc:=λc h=>by obtain⟨a,b⟩:=bW5;exact(J.g2 g x hx).nc c ((aJ6 oX).2 ⟨.inl ⟨oX,oX⟩,b⟩))
end
section
variable{w w':Wd}{g s:Nat}{x x' y y':bI}{sd':fE}{o:cu}{q q':er}
structure aR2(w w':Wd)(g:Nat)(x x':bI)(z:Nat)(y y':bI):Prop where
 hx:w.gs[g]?=x
 hy:w.gs[z]?=y
 ne:z≠g
 yf:aL2 w' y y'
 wy:aW y
 py:y'.lQ≠0/\(y'.lQ=y.lQ\/y'.lQ=w.av)
 gs:w'.gs=(w.gs.set z y').set g x':=by rfl
 ops:x'.ops=x.ops:=by rfl
 aO:w'.aO=w.aO:=by rfl
 q:∀k:Int,w'.ef.len k<=w.ef.len k:=by exact λ_=>ae1 _
 dr:∀c,aH4 x c->aH4 x' c:=by(intro c h;exact aX h.1 (by omega))
 r:∀(c:Nat) r,w.au[c]?=some r->w'.au[c]?=r\/aL x ((c:Int)+1):=by exact λ_ _ h=> .inl h
 s1:∀(j:Nat) y (s:Nat) sd,j≠g->w.gs[j]?=some y->y.aN=(s:Int)->w.ah[s]?=some sd->w'.ah[s]?=sd:=by exact λ_ _ _ _ _ _ _ h=>h
 s2:∀(s:Nat) sd,w.ah[s]?=some sd->sd.cK->sd.g≠g\/aW x->∃sd',w'.ah[s]?=some sd'/\sd'.g=sd.g:=by exact λ_ sd h _ _=>⟨sd,h,ii⟩
 nwx:¬aW x
 a4:aT x'->0<=y'.bF/\0<=x'.bF/\∃(s:Nat) (sd:fE),x'.br=s/\w'.ah[s]?=sd/\sd.g=z:=by(intro h;unfold aT at h;simp only at h;omega)
 a5:¬aT x'->0<=y'.aN/\(z:Int)∈x'.OK:=by(intro h;exact aX h (by unfold aT;simp))
 cm:aT x->∀(s z':Nat) sd,x.br=s->w.ah[s]?=some sd->sd.g=z'->z'=z/\¬aT x':=by(intro h;unfold aT at h;omega)
 done:w'.done=w.done:=by rfl
 ds:w'.UB=w.UB:=by rfl
 g2:G2 w' x'
 Yu:Yu x'+Rn w'.ax+3*Xr w'.ef+1<=Yu x+Rn w.ax+3*Xr w.ef
 st:w'.av=w.av:=by rfl
 rl:w.au<=w'.au.length:=by first|exact rx _|simp[Wd.dZ]
 tl:told x'->told x/\qu x' g 0=qu x g 0/\aP x'=aP x\/bk3 w' w.av (qu x' g 0) (aP x'):=by first|(refine λh=>aX h ?_;unfold told;simp;done)|(refine λh=>aX h ?_;unfold told;simp only;omega;done)|(refine λ_=> .inl ⟨?_,ii,ii⟩;unfold told;omega)
 p0:x.ae≠0
 Bo:x'.ae≠19/\x'.ae≠29/\x'.ae≠9/\¬Ra x'/\¬aY6 x'/\¬aW x'
 eg:x'.at_=x.at_/\x'.call=x.call/\x'.aH=x.aH/\x'.bJ=x.bJ/\x'.bY=x.bY/\x'.bA=x.bA/\x'.aR=x.aR/\x'.aN=x.aN:=by exact⟨ii,ii,ii,ii,ii,ii,ii,ii⟩
 a0:x.bJ=0
 pp:(x'.lQ=x.lQ\/x'.lQ=w.av)/\((x.aR\/0<=x.aN)->x'.lQ≠0\/x'.lQ=x.lQ):=by first|exact⟨.inl rfl,λ_=> .inr rfl⟩|(refine⟨.inr rfl,λ_=> .inl ?_⟩;have:=(‹Inv2 _›:Inv2 _).stp;simp only;omega)
 iq:∀s sd,JP w.ef s->w.ah[s]?=some sd->JP w'.ef s\/sd.g=z:=by exact λ_ _ h _=> .inl h
 wk:∀v∈x.OK,v∈x'.OK:=by first|exact λ_ h=>h|exact λ_ h=>as6 _ h
 bn:w'.ax=w.ax:=by rfl
 lv:∀(s:Nat) sd',w'.ah[s]?=some sd'->sd'.cK->∃sd,w.ah[s]?=some sd/\sd.cK/\sd'.g=sd.g/\sd'.case=sd.case/\sd'.ch=sd.ch/\sd'.cF=sd.cF:=by exact λs sd h hl=>⟨sd,h,hl,ii,ii,ii,ii⟩
theorem aR2.pR(E:aR2 w w' g x x' z y y'):aH2 w w' g x:=by
 have I:(w.gs.set z y')[g]?=x:=by rw[gd (dE E.ne)];exact E.hx
 have n:w'.gs[z]?=y':=by rw[E.gs,gd E.ne];exact di _ E.hy
 obtain⟨J,K,L,A,X,Y,M,O⟩:=E.eg;have Q:aP x'=aP x:=oM E.ops J;have F:∀(j:Nat) b,j≠g->w'.gs[j]?=some b->j=z/\b=y'\/w.gs[j]?=some b:=λj b f d=>by rw[E.gs,gd f]at d;grind
 refine⟨x',{st:=E.st,rl:=E.rl,tl:=E.tl,dn:=λm h=> .inl (by rw[<-E.done];exact h),ot:=λj u b f d R=>?_,tu:=.inr (.inr ⟨E.p0,E.Bo.1,Q,K,L,.inl A,E.pp.1.imp id .inl⟩),iq:=λs sd h S=>(E.iq s sd h S).imp id λh=>⟨z,y',h,n,.inl E.py.1⟩,io:=λB i=>aX (A.trans E.a0) i,io2:=λh=>aX h E.Bo.2.1,pk:=λh=>?_,zp:=λh=>aX h E.Bo.2.2.2.1,ar:=λh=>aX h E.Bo.2.2.2.2.1,aw:=λh=>aX (A.trans E.a0) h,cm:=λh s D sd B i G=>?_,wk:=λv h=> .inl (E.wk v h),bn:=λj a _ h=>⟨a,by rw[E.bn];exact h,id⟩,ow:=λh=>aX h E.Bo.2.2.2.2.2,n9:=λh=>aX h E.Bo.2.2.1,lv:=λs sd' h Z=>?_,me:=by rw[E.gs];exact di _ I,len:=by rw[E.gs];simp,yf:=λj b f d=>?_,ops:=E.ops,c1:=λc h=>(aI1 E.aO c).2 h,c2:=λc h=> .inl ((aI1 E.aO c).1 h),q:=λk=> .inl (E.q k),dr:=λc h=> .inl (E.dr c h),r:=E.r,s1:=E.s1,s2:=E.s2,wi:=.inr (.inr E.nwx),a4:=λh s D sd u B i G l=>?_,ds:=E.ds,g2:=E.g2,Yu:=E.Yu}⟩
 .rcases F j b f R with⟨rfl,rfl⟩|h
  .rw[E.hy]at d;cases d;refine .inr ⟨E.wy,E.py.1,E.py.2,?_⟩;by_cases h:aT x'
   .exact .inl ⟨h,(E.a4 h).2.2⟩
   exact .inr (E.a5 h)
  grind
 .rw[M,O]at h;exact(E.pp.2 h).imp id λH=>⟨h,H⟩
 .obtain⟨rfl,l⟩:=E.cm h s D sd B i G;exact⟨y',n,E.a5 l⟩
 .grind [lv,eP]
 .rcases F j b f d with⟨rfl,rfl⟩|h
  .exact⟨y,E.hy,E.yf⟩
  grind [aL2.refl]
 obtain⟨T,U,W,Nf,b3,H,b5⟩:=E.a4 h;obtain rfl:s=W:=oX
 rw[i]at H;cases H;obtain rfl:D=z:=oX
 rw[n]at l;cases l;exact⟨T,E.py.1,U⟩
theorem aK1(I:Inv w N)(c:w.ah[s]?=sd)(d:sd.cK->∀(j:Nat) y,w.gs[j]?=some y->j≠g->sd.g=j->y.aN≠(s:Int))(a:w'.ah=w.ah.set s sd')(j:Nat)(y:bI)(b:Nat)(u:fE)(f:j≠g)(h:w.gs[j]?=y)(i:y.aN=(b:Int))(k:w.ah[b]?=u):w'.ah[b]?=u:=by
 grind [Inv.served]
theorem aK2(c:w.ah[s]?=sd)(d:sd.cK->sd.g≠g\/aW x->sd'.g=sd.g)(a:w'.ah=w.ah.set s sd')(b:Nat)(u:fE)(f:w.ah[b]?=u)(h:u.cK)(i:u.g≠g\/aW x):∃sd',w'.ah[b]?=some sd'/\sd'.g=u.g:=by
 grind
theorem aV0(Q:xQ q N)(b:xQ q' (iA N s)):(∀k:Int,q'.len k<=q.len k)/\Xr q'<=Xr q/\(∀(k:Nat) l,N[k]?=some l->s∈l->Xr q'+1<=Xr q)/\∀a,a≠s->JP q a->JP q' a:=by
 have d:=aJ9 s N;refine⟨λk=>?_,?_,λk l f h=>?_,λa=>bo5 Q b⟩
 .by_cases c:0<=k
  .obtain⟨n,rfl⟩:=pz c;rw[Q.aS1,b.aS1];grind [iA]
  unfold er.len idx;rw[aE c,aE c];simp
 .rw[Q.Xr,b.Xr];exact d.1
 rw[Q.Xr,b.Xr];exact d.2 k l f h
section
variable(I:Inv w N)(J:Inv2 w)(hx:w.gs[g]?=x)(hm:¬aw0 x/\¬aW x)
include I J hx hm
theorem G2.aK5(b:w'.aO=w.aO)(d:x'.bJ=x.bJ)(f:x'.aN=x.aN)(i:∀c,aH0 x' c->aH0 x c)(a:x'.ae≠9/\(x'.ae=22\/x'.ae=23->∀c,aH4 x' c->pP w' c))(j:KO x.aH x.aq x.bA->KO x'.aH x'.aq x'.bA:=by exact λh=>h):G2 w' x':=
 G2.pre (I.loc g x hx) (J.g2 g x hx) hm.1 hm.2 d f (λc h k=>(J.g2 g x hx).nc c (i c h) ((aI1 b c).1 k)) (λh=>aX h a.1) (λc h=>a.2 h.1 c h) j
theorem aO7(F:¬bm x)(G:∀sd,¬eV x sd)(B:¬(x.ae=22\/x.ae=23))(H:1<=Y/\Y<=w.au)(K:aL x Y){r:Int}(L:r=2*Y-2\/r=2*Y-1)(i hand:Nat)(n:Nat)(D:x.ae=n)(O:n=6/\i=7/\hand=8\/n=25/\i=26/\hand=27)(j:∀x':bI,x'.ops=x.ops->x'.at_=x.at_->x'.aH=x.aH->x'.k=x.k->(x'.ae=i\/x'.ae=hand)->∀Y,aH0 x' Y->aH0 x Y)(Q:pQ i x.aH x.aq x.k.toNat+1<=pQ n x.aH x.aq x.k.toNat)(R:pQ hand x.aH x.aq x.k.toNat+1<=pQ n x.aH x.aq x.k.toNat)(h:Mach.take w g r i hand=(w',Z)):Z=false/\w'=w\/(∃s:Nat,w'=w.ay g {x with br:=s,ae:=i}/\aH2 w w' g x)\/∃m,w'.gs[g]?=some m/\m.ae=hand/\dU m=dU x/\∀f,aH2 w (w'.ay g {m with fire:=f}) g x:=by
 have u:x.bJ=0:=ww λh=>hm.1 ((J.g2 g x hx).early h)
 have M:¬aT x:=by unfold aT;omega
 rcases FF I hx F G H K L i hand with c|⟨s,k,l,sd,c,v,S,T,U,W⟩|⟨s,z,sd,y,q',c,t2,t3,t4,t5,t6,t7,t8,t9,t10,t11,t12,t13,t14⟩
 .rw[c]at h;cases h;exact .inl ⟨ii,ii⟩
 .rw[c]at h;cases h;refine .inr (.inl ⟨s,ii,Own.pR (x':={x with br:=s,ae:=i}) {hx:=hx,zp:=λh=> .inl ⟨h.elim (λh=> .inl ⟨h.1,by have:=h.2;simp only at this;omega⟩) (λh=>ck1),ii⟩,dr:=λY h=>aX h.1 B,a4:=co7,g2:=G2.aK5 I J hx hm ii ii ii (j _ ii ii ii ii (.inl rfl)) ⟨by show(i:Int)≠9;omega,λh=>by have h:(i:Int)=22\/(i:Int)=23:=h;omega⟩,Yu:= ?_}⟩);have:=aO6 (x:=x) (x':={x with br:=(s:Int),ae:=i}) n i D ii ii ii oX (a:=1) (b:=0) ci9;show V.Yu {x with br:=(s:Int),ae:=i}+Rn w.ax+3*Xr w.ef+1<=_;omega
 rw[c]at h;cases h;have A:=aV0 (q':=q') I.q t2.q;refine .inr (.inr ⟨{x with br:=s,t:=w.av,lQ:=w.av,bF:=z,ae:=hand},di (x:=x) _ (by show(w.gs.set z _)[g]?=_;rw[gd (dE t6)];exact hx),ii,ii,λf=>?_⟩);rw[cY];refine aR2.pR (x':={x with br:=s,t:=w.av,lQ:=w.av,bF:=z,ae:=hand,fire:=f}) (z:=z) (y:=y) (y':={y with lQ:=w.av,bF:=g,fire:=sd.case}) {hx:=hx,hy:=t7,ne:=t6,yf:=⟨ii,.inr (WF g),.inl rfl,.inr cr8⟩,wy:=t10,py:=⟨cr8,.inr rfl⟩,q:=A.1,dr:=λY h=>aX h.1 B,nwx:=hm.2,a4:=λ_=>⟨WF g,WF z,s,sd,ii,t3,t5⟩,a5:=λh=>aX co7 h,cm:=λh=>aX h M,p0:=oX,Bo:=by(unfold Ra aY6 aW;simp only;omega),a0:=u,iq:=λc X E v=>(az3 (c=s)).elim (λd=> .inr (by subst d;rw[t3]at v;cases v;exact t5)) λd=> .inl (A.2.2.2 c d E),g2:=G2.aK5 I J hx hm ii ii ii (j _ ii ii ii ii (.inr rfl)) ⟨by show(hand:Int)≠9;omega,λh=>by have h:(hand:Int)=22\/(hand:Int)=23:=h;omega⟩,Yu:= ?_};have:=aO6 (x:=x) (x':={x with br:=(s:Int),t:=w.av,lQ:=w.av,bF:=z,ae:=hand,fire:=f}) n hand D ii ii ii oX (a:=1) (b:=0) ci9;have E:=A.2.1;show V.Yu {x with br:=(s:Int),t:=w.av,lQ:=w.av,bF:=z,ae:=hand,fire:=f}+Rn w.ax+3*Xr q'+1<=_;omega
end
theorem aQ5(h:w.gs[g]?=x):w.ay g x=w:=by
 have:w.gs.set g x=w.gs:=by apply ad9;grind
 unfold Wd.ay;rw[this]
theorem aQ6{P:Wd->Prop}(a:w'.gs[g]?=x)(h:∀f,P (w'.ay g {x with fire:=f})):P w':=by
 have:=h x.fire;rwa [show({x with fire:=x.fire}:bI)=x from ii,aQ5 a]at this
theorem aQ7(I:Inv w N)(J:Inv2 w)(hx:w.gs[g]?=x)(A:¬aw0 x/\¬aW x)(R:bm x)(tR:∀sd,¬eV x sd)(H:¬(x.ae=22\/x.ae=23))(lost j:Nat)(n:Nat)(E:x.ae=n)(W:n=7/\lost=6/\j=8\/n=26/\lost=25/\j=27)(v:∀x':bI,x'.ops=x.ops->x'.at_=x.at_->x'.aH=x.aH->x'.k=x.k->(x'.ae=lost\/x'.ae=j)->∀c,aH0 x' c->aH0 x c)(X:pQ lost x.aH x.aq x.k.toNat<=pQ n x.aH x.aq x.k.toNat+2)(Y:pQ j x.aH x.aq x.k.toNat+1<=pQ n x.aH x.aq x.k.toNat)(h:rD w g lost j=w'):(∃m,w'.gs[g]?=some m/\m.ae=lost/\aH2 w w' g x)\/∃m,w'.gs[g]?=some m/\m.ae=j/\dU m=dU x/\∀f,aH2 w (w'.ay g {m with fire:=f}) g x:=by
 have F:x.bJ=0:=ww λh=>A.1 ((J.g2 g x hx).early h)
 have S:¬aT x:=by unfold aT;omega
 obtain⟨s,k,l,sd,a1,K,L,r,Z,a6⟩:=I.look g x hx R;obtain⟨sd',z,y,M,b2,B,b4,b5,b6,b7⟩:=I.EJ k l s K L;rw[r]at M;cases M;have mh:z≠g:=co4
 have G:nat? x.br=s:=cx6
 have T:s<w.ah.length:=um r;unfold rD at h;simp only[hx,G,eQ,r,B,b4,bW,eN]at h;rw[aE mh]at h
 cases D:y.aR with
 |true=>
  simp only[D,dt,cI]at h;obtain⟨w1,U,h⟩:=h;obtain⟨q',rfl,d1,d2,d3,d4⟩:=aJ2 I T ii U
  cases h;left;refine⟨{x with br:= -1,ae:=lost},di (x:=x) _ hx,ii,Own.pR (x':={x with br:= -1,ae:=lost}) {hx:=hx,zp:=λh=> .inl ⟨h.elim (λh=> .inl ⟨h.1,by have:=h.2;simp only at this;omega⟩) (λh=>ck1),ii⟩,iq:=λd u O Q=>(az3 (d=s)).elim (λi=> .inr ⟨z,y,by subst i;rw[r]at Q;cases Q;exact B,by show(w.gs.set g _)[z]?=_;rw[gd mh];exact b4,.inr D⟩) λi=> .inl (d4 d i O),q:=λk=> .inl (d1 k),dr:=λc h=>aX h.1 H,a4:=co7,g2:=G2.aK5 I J hx A ii ii ii (v _ ii ii ii ii (.inl rfl)) ⟨by show(lost:Int)≠9;omega,λh=>by have h:(lost:Int)=22\/(lost:Int)=23:=h;omega⟩,Yu:= ?_}⟩
  have:=aO6 (x:=x) (x':={x with br:= -1,ae:=lost}) n lost E ii ii ii oX (a:=0) (b:=2) ci9;have O:=d3 k l K L;show V.Yu {x with br:= -1,ae:=lost}+Rn w.ax+3*Xr q'+1<=_;omega
 |false=>
  simp only[D,nW,dF]at h;have O:((w.ay z {y with aR:=true}).ay g {x with t:=w.av}).gs[g]?=some {x with t:=w.av}:=di (x:=x) _ cn7;have rN:((w.ay z {y with aR:=true}).ay g {x with t:=w.av}).gs[z]?=some {y with aR:=true}:=cv9
  rw[Kp (sd:=sd) O r B rN mh]at h;simp only[eN]at h;rw[aX9 (x:={x with t:=w.av,lQ:=w.av,bF:=z}) (by show((((w.gs.set z _).set g _).set g _).set z _)[g]?=_;rw[gd (dE mh)];exact di (x:={x with t:=w.av}) _ (di (x:=x) _ (by rw[gd (dE mh)];exact hx)))]at h
  have i:(((((w.ay z {y with aR:=true}).ay g {x with t:=w.av}).ay g {x with t:=w.av,lQ:=w.av,bF:=z}).ay z {y with aR:=true,lQ:=w.av,bF:=g,fire:=sd.case}).ay g {x with t:=w.av,lQ:=w.av,bF:=z,ae:=j})=
    (w.ay z {y with lQ:=w.av,bF:=g,fire:=sd.case,aR:=true}).ay g {x with t:=w.av,lQ:=w.av,bF:=z,ae:=j}:=by
   rw[cY,sR mh,cY,sR mh,cY,sR (dE mh)]
  right;have Q:w'=(w.ay z {y with lQ:=w.av,bF:=g,fire:=sd.case,aR:=true}).ay g {x with t:=w.av,lQ:=w.av,bF:=z,ae:=j}:=by rw[<-i];exact(mx h).symm
  subst Q
  have U:aW y:=by
   have d:(aP y).ai=9:=by
    exact ce2
   have E:¬(y.ae=31\/y.ae=32):=λh=>by have:=((I.loc z y b4).aR d).2 h;rw[D]at this;cases this
   rcases b6 with⟨h,_⟩|⟨_,h⟩
   .exact aX d h
   right;refine⟨d,?_⟩;grind
  refine⟨{x with t:=w.av,lQ:=w.av,bF:=z,ae:=j},di (x:=x) _ cn7,ii,ii,λf=>?_⟩;rw[cY];refine aR2.pR (x':={x with t:=w.av,lQ:=w.av,bF:=z,ae:=j,fire:=f}) (z:=z) (y:=y) (y':={y with lQ:=w.av,bF:=g,fire:=sd.case,aR:=true}) {hx:=hx,hy:=b4,ne:=mh,yf:=⟨ii,.inr (WF g),.inl rfl,.inr cr8⟩,wy:=U,py:=⟨cr8,.inr rfl⟩,dr:=λc h=>aX h.1 H,nwx:=A.2,a4:=λ_=>⟨WF g,WF z,s,sd,a1,r,B⟩,a5:=λh=>aX co7 h,cm:=λh=>aX h S,p0:=oX,Bo:=by(unfold Ra aY6 aW;simp only;omega),a0:=F,g2:=G2.aK5 I J hx A ii ii ii (v _ ii ii ii ii (.inr rfl)) ⟨by show(j:Int)≠9;omega,λh=>by have h:(j:Int)=22\/(j:Int)=23:=h;omega⟩,Yu:= ?_};have:=aO6 (x:=x) (x':={x with t:=w.av,lQ:=w.av,bF:=z,ae:=j,fire:=f}) n j E ii ii ii oX (a:=1) (b:=0) ci9;show V.Yu {x with t:=w.av,lQ:=w.av,bF:=z,ae:=j,fire:=f}+Rn w.ax+3*Xr w.ef+1<=_;omega
end
end V
open Go.Maps Go.ChangeMaps
theorem DU(w:World):gt 27 #[] w λe a=>∃s b c:Nat,e=s/\fH a s b c 0 0 (λ_=>0) (λ_=>0)/\Below w w a/\w<=s/\w<=b/\w<=c:=by
 have j:∀W:World,(Instr.makeMap 120 none).run prog W=.ok (.map (some W)) (W.alloc (.map #[] 0)):=λW=>by simp[Instr.makeMap,aB6 underlying120]
 go_enter func27,ntmps27;go_wp2;go_ret;have s1:(w.alloc (.map #[] 0)).heap.size=w.heap.size+1:=sX
 have s2:((w.alloc (.map #[] 0)).alloc (.map #[] 0)).heap.size=w.heap.size+1+1:=sX
 have g:=jh.cZ w;have d:=jh.cZ (w.alloc (.map #[] 0));have i:=(ae5 (w.alloc (.map #[] 0)).heap.size (w.alloc (.map #[] 0))).alloc cG (.map #[] 0);have f:=(ae5 ((w.alloc (.map #[] 0)).alloc (.map #[] 0)).heap.size ((w.alloc (.map #[] 0)).alloc (.map #[] 0))).alloc cG (.cells #[.map (some w.heap.size),.map (some (w.heap.size+1))] 122);rw[s1]at d;refine⟨_,w.heap.size,w.heap.size+1,ii,⟨by rw[<-s2];exact dP,(g.below i).below f,d.below f,oX,oX,oX⟩,((((fp).alloc cG _).alloc ck7 _).alloc cn0 _),oX,oX,oX⟩
def qV(f:Int->Int)(who:Int)(l:ce):Int:=l.foldl (λwho g=>if f who<f g then g else who) who
theorem Mz(f:Int->Int)(who:Int)(l:ce)(g:Int):qV f who (l++[g])=if f (qV f who l)<f g then g else qV f who l:=by unfold qV;rw[List.foldl_append];rfl
theorem sw(f:Int->Int):∀(l:ce) (who:Int),qV f who l=who\/qV f who l∈l
 | [],_=> .inl rfl
 |g::l,who=>by
  unfold qV;rw[bH4];rcases sw f l (if f who<f g then g else who)with h|h
  .grind [qV]
  exact .inr (nO _ h)
theorem Gg{s:Nat}{f1 f2:Int->Int}{run:ce}(r:am)(c:Nat)(k:Int)(f:Nat)(w:World)(G:cp=run)(a0:cp<=20)(T:0<cp)(J:fH w s n z p X f1 f2)(K:Rd .i64 w r run)(U:∀l∈run,(Lit.int .i64 l).wf)(W:∀g,0<=f1 g/\f1 g<=1000000)(hk:0<=k/\k<=1000000)(hn:f<=1000):gt 29 #[s,(r,cp,c),k,I f] w λe w'=>e=Value.tuple #[(qV f1 (run.getD 0 0) run),.bool (k<=f1 (qV f1 (run.getD 0 0) run)+f)]/\∃d,w'=w.drewN d:=by
 obtain⟨HM,Y,HR,HF,SY⟩:=jW G J K W U;have Z:=J.c0;obtain⟨b,off,rfl,L⟩:=K.2 (by rw[<-G];exact T);have M:=L 0 (by rw[<-G];exact T);obtain⟨A,N⟩:=dC (run.getD 0 0);rw[<-N]at M ⊢;rw[bH0]at M;have a1:=ag N;have BJ:=ag L;clear G J K U W L N;go_enter func29,ntmps29;go_wp2;clear M;go_loopw [10,18] (λwho i wr=>∃j:Nat,i=.int .i64 j/\j<=cp/\who=I (qV f1 A (run.take j))/\Hid (∃d,wr=w.drewN d)) (λ_ i _=>cp-(intOf i).toNat)
 case atStart=>exact⟨0,ii,oX,ii,0,ii⟩
 obtain⟨j,rfl,hj,rfl,B⟩:=hrel;have E:∀a,wr.cell? a=w.cell? a:=λa=>by obtain⟨d,t⟩:=B.out;rw[t];rfl
 have uY:run.take cp=run:=by rw[HM.out];exact aj3
 by_cases dD:j<cp
 .obtain⟨y,O⟩:=dC (run.getD j 0);have ey:wr.cell? (b,off+j)=I y:=by rw[E,O];exact BJ j cr2
  have Q:run[j]?=y:=by rw[O,c9X,fv cr2];rfl
  have XL:=SY.out y (lf Q);obtain⟨o,u⟩:=dC (qV f1 A (run.take j));have F:(Lit.int .i64 o).wf=true:=by grind [sw,Hid.out]
  have C:jh {wr with drawn:=wr.drawn+1} n p f1:=by obtain⟨d,t⟩:=B.out;rw[t];exact Y.out.m1
  have R:=C.lookup XL;have v:=C.lookup F;have d0:wr.cell? s=some (.map n):=by rw[E];exact Z
  have S:qV f1 A (run.take (j+1))=if f1 o<f1 y then y else o:=by rw[ox Q,Mz,<-u]
  rw[<-u];obtain⟨fy,x⟩:∃q,q=f1 y:=⟨_,ii⟩;obtain⟨D,m⟩:∃q,q=f1 o:=⟨_,ii⟩;rw[<-x]at R;rw[<-m]at v;rw[<-x,<-m]at S;have HN:=ag S;obtain⟨L1,H⟩:=dA R v;clear O Q XL u F x m S R v E C;go_upto_region 5 with fail
  go_still_tail 12,kX;refine lX ii (.tmp 25) (.tmp 26) ii n (I y) (I fy) ii ii L1 ?_;repeat still_step
  refine lX ii (.tmp 31) (.tmp 32) ii n (I o) (I D) ii ii H ?_;refine aj0 ?_;change wpList _ _ _ _ _ wr.drew;have HD2:Hid (∃d,wr.drew=w.drewN d):=by obtain⟨d,t⟩:=B.out;exact⟨d+1,by rw[t];simp[World.drew,World.drewN,aj2]⟩
  clear L1 H B d0 ey;by_cases Xu:D<fy
  .have hN:=HN.out;rw[aF Xu]at hN;have KG:Hid (I y=I (qV f1 A (run.take (j+1)))):=by rw[hN];rfl
   exact cg0
  have hN:=HN.out;rw[aE Xu]at hN;have KG:Hid (I o=I (qV f1 A (run.take (j+1)))):=by rw[hN];rfl
  exact cg0
 obtain rfl:j=cp:=oX
 rw[uY];obtain⟨o,u⟩:=dC (qV f1 A run);have F:(Lit.int .i64 o).wf=true:=by grind [sw,Hid.out]
 have C:jh {wr with drawn:=wr.drawn+1} n p f1:=by obtain⟨d,t⟩:=B.out;rw[t];exact Y.out.m1
 have v:=C.lookup F;have d0:wr.cell? s=some (.map n):=by rw[E];exact Z
 have x:=HF.out o;rw[<-u];obtain⟨D,m⟩:∃q,q=f1 o:=⟨_,ii⟩;rw[<-m]at v x;obtain⟨H,O,R⟩:=ij v u m;clear v F u C E uY m;go_upto_region 8 with fail
 refine wp_region_still_lit kX kX ?_;repeat still_step
 refine lX ii (.tmp 42) (.tmp 43) ii n (I o) (I D) ii ii H ?_;repeat still_step
 refine aj0 ?_;go_wp2;go_ret2;obtain⟨d,t⟩:=B.out;refine⟨?_,d+1,by rw[t];simp[World.drew,World.drewN,aj2]⟩;rw[<-O.out,<-R.out];have Q:IntKind.i64.wrap (D+(f:Int))=D+f:=jX oX;rw[Q];rfl