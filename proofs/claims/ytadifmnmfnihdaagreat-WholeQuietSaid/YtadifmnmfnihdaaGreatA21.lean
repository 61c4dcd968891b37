import Derived.Test.YtadifmnmfnihdaaGreatA17
import Derived.Test.YtadifmnmfnihdaaGreatA19
set_option linter.all false
set_option maxRecDepth 100000
set_option maxHeartbeats 40000000
namespace Go.Proofs.YtadifmnmfnihdaaGreat
open Mach
variable{t E S':Wd}{b n z X cp:Nat}{e O:bI}{T sd:fE}{L:cu}{v u w':World}{h:ce}{G:Fx}{Q:Mem}{Y:Int}{A:am}
namespace V
section
variable{w W:Wd}{ls:ap}{g s:Nat}{x y y':bI}{q q':er}
def aP3(w t:Wd)(g:Nat)(x:bI):Prop:=t=w/\JM w x\/aH2 w t g x
theorem Vm{a:Option Wd}(h:yes a=(t,true)):a=t:=by
 grind [yes,aH5]
section
variable(I:Inv w ls)(J:Inv2 w)(hx:w.gs[g]?=x)(hs:Na w g)
include I J hx hs
theorem aN7(hk:(aP x).ai=2\/(aP x).ai=4)(u:x.ae≠0)(h:jq w g=(t,true)):aP3 w t g x:=by
 have a:=bT4;obtain⟨A,F⟩:=pj I hx u;have pM:=a.kp u
 have f:x.ae=10\/x.ae=11\/x.ae=14->(aP x).ai=2:=λh=>by
  exact cb5
 have v:x.ae=1\/x.ae=2->(aP x).ai=4:=λh=>by grind [bG]
 unfold jq at h;simp only[A,hx,bW,eN]at h;rw[aE oX]at h;by_cases i:x.ae=1
 .rw[aF i]at h;exact .inr (aM5 I J hx (v (.inl i)) i (Vm h))
 rw[aE i]at h;by_cases j:x.ae=2
 .rw[aF j]at h;exact .inr (aL3 I J hx (v (.inr j)) j (Vm h))
 rw[aE j]at h;by_cases m:x.ae=5
 .rw[aF m]at h;exact .inr (aL4 I J hx hk m (Vm h))
 rw[aE m]at h;by_cases k:x.ae=6
 .rw[aF k]at h;simp only[cI]at h;obtain⟨⟨n,p⟩,c,h⟩:=h;rcases aM0 I J hx hs oX k (.inl rfl) c with⟨rfl,rfl,l⟩|⟨rfl,d⟩
  .simp only[nW,dF]at h;exact .inr (aQ8 I J hx oX k (by rw[az4 hk];exact l) (Vm h))
  simp only[dt]at h
  cases h;exact .inr d
 rw[aE k]at h;by_cases n:x.ae=7
 .rw[aF n]at h;exact .inr (aP0 I J hx oX n (Vm h))
 rw[aE n]at h;by_cases p:x.ae=8
 .rw[aF p]at h;exact .inr (aM7 I J hx hs hk p (Vm h))
 rw[aE p]at h;by_cases r:x.ae=9
 .rw[aF r]at h;exact .inr (aM6 I J hx hk r (Vm h))
 rw[aE r]at h;by_cases c:x.ae=10
 .rw[aF c]at h;exact .inr (aO8 I J hx (.inl (f (.inl c))) c ⟨ii,ii,ii,by simp[f (.inl c)]⟩ (Vm h))
 rw[aE c]at h;by_cases d:x.ae=11
 .rw[aF d]at h;exact .inr (aL9 I J hx (.inl (f (.inr (.inl d)))) d (.inl rfl) (Vm h))
 rw[aE d]at h;by_cases l:x.ae=14
 .rw[aF l]at h;have B:=f (.inr (.inr l));replace h:=Vm h;unfold lu at h;simp only[hx,bW,eN]at h;exact .inr (aO9 I J hx hs (.inl B) l (λsd=>bZ (if sd.done then 1 else 3)) (λsd D=>⟨λ_=>by rw[D];simp[bZ],λh=>oX⟩) h)
 rw[aE l]at h;exact aJ0 I J hx hs oX h ii
theorem aN8(hk:(aP x).ai=3\/(aP x).ai=5)(k:x.ae≠0)(h:jr w g=(t,true)):aP3 w t g x:=by
 have a:=bT4;obtain⟨l,u⟩:=pj I hx k;have pM:=a.kp k
 have m:x.ae=10\/x.ae=11\/x.ae=14->(aP x).ai=3:=λh=>by
  exact cb5
 have n:x.ae=1\/x.ae=2\/x.ae=3->(aP x).ai=5:=λh=>by grind [bG]
 unfold jr at h;simp only[l,hx,bW,eN]at h;rw[aE oX]at h;split at h
 .exact aJ0 I J hx hs oX h ii
 right;by_cases i:x.ae=1\/x.ae=2\/x.ae=3
 .rw[aF i]at h;exact aM9 I J hx (n i) i (Vm h)
 rw[aE i]at h;by_cases f:x.ae=5\/x.ae=6\/x.ae=7\/x.ae=8\/x.ae=9
 .rw[aF f]at h;replace h:=Vm h;unfold iE at h;simp only[hx,bW,eN]at h;by_cases f:x.ae=5
  .rw[aF f]at h;exact aL5 I J hx hk f h
  rw[aE f]at h;by_cases j:x.ae=6
  .rw[aF j]at h;simp only[cI]at h;obtain⟨⟨r,v⟩,c,h⟩:=h;rcases aM0 I J hx hs oX j (.inr rfl) c with⟨rfl,rfl,p⟩|⟨rfl,d⟩
   .simp only[nW,dF]at h;exact aQ8 I J hx oX j (by rw[ak9 oX];exact p) h
   grind
  rw[aE j]at h;by_cases c:x.ae=7
  .rw[aF c]at h;exact aP0 I J hx oX c h
  rw[aE c]at h;by_cases d:x.ae=8
  .rw[aF d]at h;exact aM8 I J hx hs hk d h
  rw[aE d]at h;exact aN0 I J hx hk (show x.ae=9 by omega) h
 rw[aE f]at h;split at h
 .rename_i p;have c:=m p;replace h:=Vm h;unfold j1 at h;simp only[hx,bW,eN]at h;by_cases d:x.ae=10
  .rw[aF d]at h;exact aO8 I J hx (.inr c) d ⟨ii,ii,ii,by simp[c]⟩ h
  rw[aE d]at h;by_cases j:x.ae=11
  .rw[aF j]at h;exact aL9 I J hx (.inr c) j (.inr rfl) h
  rw[aE j]at h;exact aO9 I J hx hs (.inr c) (show x.ae=14 by omega) _ (λsd r=>⟨λh=>oX,λ_=>by simp[r]⟩) h
 cases h
theorem aN9(a:(aP x).ai=6)(i:x.ae≠0)(h:js w g=(t,true)):aP3 w t g x:=by
 obtain⟨j,k⟩:=pj I hx i;unfold js at h;simp only[j,hx,bW,eN]at h;rw[aE oX]at h;split at h
 .exact aJ0 I J hx hs oX h ii
 right;by_cases c:x.ae=21
 .rw[aF c]at h;exact aQ1 I J hx a c (Vm h)
 rw[aE c]at h;by_cases d:x.ae=22
 .rw[aF d]at h;exact aR4 I J hx a d (Vm h)
 rw[aE d]at h;by_cases f:x.ae=23
 .rw[aF f]at h;exact aN1 I J hx a f (Vm h)
 grind
theorem aK9(a:(aP x).ai=9)(A:x.ae≠0)(h:aS7 w g=(t,true)):aP3 w t g x:=by
 obtain⟨B,D⟩:=pj I hx A;unfold aS7 at h;simp only[B,hx,bW,eN]at h;rw[aE oX]at h;by_cases v:x.ae=13\/x.ae=17
 .rw[aF v]at h;exact aJ0 I J hx hs (.inr a) h ii
 rw[aE v]at h;by_cases r:x.ae=24
 .rw[aF r]at h;exact aJ7 I J hx a 24 25 r (.inl ⟨ii,ii⟩) (Vm h)
 rw[aE r]at h;by_cases c:x.ae=25
 .rw[aF c]at h;exact .inr (aS8 I J hx hs a c (Vm h))
 rw[aE c]at h;by_cases d:x.ae=26
 .rw[aF d]at h;exact .inr (aR5 I J hx a d (Vm h))
 rw[aE d]at h;by_cases f:x.ae=27
 .rw[aF f]at h;exact .inr (aN3 I J hx hs a f (Vm h))
 rw[aE f]at h;by_cases i:x.ae=28
 .rw[aF i]at h;exact .inr (aL6 I J hx a i (Vm h))
 rw[aE i]at h;by_cases j:x.ae=29
 .rw[aF j]at h;exact .inr (aK8 I J hx a j (Vm h))
 rw[aE j]at h;by_cases k:x.ae=30
 .rw[aF k]at h;exact .inr (aN4 I J hx a k (Vm h))
 rw[aE k]at h;by_cases u:x.ae=14
 .rw[aF u]at h;exact .inr (aR6 I J hx hs a u (Vm h))
 rw[aE u]at h;by_cases l:x.ae=31
 .rw[aF l]at h;exact aJ7 I J hx a 31 32 l (.inr ⟨ii,ii⟩) (Vm h)
 rw[aE l]at h;right;by_cases m:x.ae=32
 .rw[aF m]at h;exact aT0 I J hx a m (Vm h)
 rw[aE m]at h;by_cases n:x.ae=33
 .rw[aF n]at h;exact aN5 I J hx a n h
 rw[aE n]at h;by_cases p:x.ae=34
 .rw[aF p]at h;exact aN6 I J hx a p (Vm h)
 grind
theorem aT2(i:0<=w.drawn)(a:kJ w.drawn)(h:uj w g t):aP3 w t g x:=by
 rcases h with h|⟨j,L,k,l,m,h⟩
 .right;unfold gh at h;simp only[hx,bW,eN]at h;by_cases c:x.ae=0
  .rw[aF c]at h;exact aR8 I J hx hs c i a (Vm h)
  rw[aE c]at h;by_cases d:x.ae=20
  .rw[aF d]at h;exact aU5 I J hx d (Vm h)
  rw[aE d]at h;by_cases f:x.ae=18
  .rw[aF f]at h;exact aQ4 I J hx f (Vm h)
  grind
 grind [pj,aN7,aN8,aN9,aK9]
end
end
section
variable{w2 W S:Wd}{ls:ap}{g s:Nat}{x y y':bI}{o:cu}{q q':er}
theorem aR0(I:Inv t ls):∀(n c g:Nat) (x:bI),t.gs[g]?=x->aL x ((c:Int)+1)->t.au<=c+n->c<t.au->∃l e,Na t l/\t.gs[l]?=some e/\¬JM t e
 |0,c,g,x,_,_,v,A=>oX
 |n+1,c,g,x,hx,d,v,A=>by
  have L:=bT4;by_cases m:JM t x
  .obtain⟨b,h,R,U,B,Y,D⟩:=m
   have Z:(c:Int)+1<b:=by
    rcases D with⟨hk,r,_⟩|⟨hk,r,f⟩
    .exact aX d (wv oX _)
    unfold aL at d;rw[aF hk]at d;have a:bC x=x.k.toNat:=(by unfold bC;rw[aF oX]);rw[a]at d;obtain⟨F,G,s3⟩:=bT1;have H:=G.1 r;unfold idx at f;rw[aF H.1]at f;obtain⟨j,J,i⟩:=al3 d;rw[tC]at J;rw[List.getElem_take]at i;have K:=uC f;obtain⟨M,N⟩:=K;have:=(ak7.1 F.BD) j x.k.toNat oX M oX;omega
   have Q:=I.lock (b-1).toNat h B;obtain⟨k,rfl⟩:=pz (show 0<=h by omega);have u:t.gs[k]?=t.gs[k]' oX:=fv oX;exact aR0 I n (b-1).toNat k _ u ((Q.2.2 k _ u).2 rfl) oX oX
  refine⟨g,x,?_,hx,m⟩;have i:=bM1;obtain⟨⟨s,b⟩,f⟩:∃p,t.ax[g]?=some p:=⟨_,fv (by rw[I.ax];exact i)⟩;obtain⟨u,B,D,F,G,H,r⟩:=I.st g x s b hx f;have J:¬s=1:=λa=>by grind [aL,bC,cH]
  have K:¬s=2:=λa=>wv (.inl (r a).1) _ d
  obtain rfl:s=0:=oX
  exact⟨b,f⟩
theorem aR9(I:Inv t ls)(d:Na t g):∃a e,Na t a/\t.gs[a]?=some e/\¬JM t e:=by
 have f:g<t.gs.length:=by rw[<-I.ax];exact aT7 d
 have m:t.gs[g]?=t.gs[g]:=fv f;by_cases i:JM t t.gs[g]
 .obtain⟨c,h,n,p,j,r,_⟩:=i;have l:=I.lock (c-1).toNat h j;obtain⟨k,rfl⟩:=pz (show 0<=h by omega);have b:t.gs[k]?=t.gs[k]' oX:=fv oX;exact aR0 I t.au (c-1).toNat k _ b ((l.2.2 k _ b).2 rfl) oX oX
 grind
theorem Inv2.same(J:Inv2 t)(f:E.gs=t.gs)(i:E.aO=t.aO)(j:E.ef=t.ef)(k:E.au=t.au)(F:E.ah=t.ah)(l:E.UB=t.UB)(m:1<=E.av):Inv2 E:=by
 obtain⟨a,b,c,n,_,p⟩:=J;refine⟨λg x h=>?_,λg x s z sd y h=>?_,λG h=>?_,by rw[l];exact n,m,by rw[f,j];exact p⟩
 .rw[f]at h;obtain⟨H,r,u,I,v,A⟩:=a g x h;refine⟨λc d=>?_,λB D d=>?_,u,λs K=>?_,λc d=>(aI1 i c).2 (v c d),A⟩
  .grind [aI1]
  .rw[k];exact r B D ((aI1 i _).1 d)
  grind [aI1]
 .grind
 grind [aI1]
def DY(p:be):Nat:=p+(p.map aH7).sum
theorem aS0(p:be)(N:Nat)(most:Int)(a:ce)(b:a.length<=1000)(r:List Ring)(k:Nat)(q:ce):(Inv2 {gj p N most a with au:=r,aO:=List.replicate k false,aq:=q,av:=1}/\bn1 (0:Nat) {gj p N most a with au:=r,aO:=List.replicate k false,aq:=q})/\work {gj p N most a with au:=r,aO:=List.replicate k false,aq:=q}=DY p:=by
 have i:∀c,¬idx (List.replicate k false) (c-1)=true:=λc h=>by
  unfold idx at h;split at h
  .cases List.eq_of_mem_replicate (lf h)
  cases h
 have f:∀(g:Nat) x,(gj p N most a).gs[g]?=some x->∃l,x=jQ l:=λg x h=>by have h:(p.map jQ)[g]?=some x:=h;grind
 have j:∀m o,¬bf6 {gj p N most a with au:=r,aO:=List.replicate k false,aq:=q} m o:=λm o h=>by
  rcases h with⟨d,h,_⟩|⟨g,x,h,n,_⟩
  .cases h
  grind [told,jQ]
 refine⟨⟨⟨λg x h=>?_,λg x s z sd y h u=>?_,λc h=>aX h (i c),b,ae1 1,λg x h v=>?_⟩,λg x h=>?_,λm o h=>aX h (j m o),λd h=>ck3,λs sd h A=>?_⟩,?_⟩
 .obtain⟨l,rfl⟩:=f g x h;exact⟨λc h=>aX h (aI2 (by simp[jQ]) c),λ_ h=>co5,λh=>aX ii h,λs h=>co5,λc h=>aX h.1 (by simp[jQ]),⟨wn _,wn _,wn _⟩⟩
 .grind [jQ]
 .grind [jQ]
 .obtain⟨l,rfl⟩:=f g x h;exact⟨by simp[jQ],λh=>aX ii h,λh=>aX ii h,λh=>aX ii h,λh=>aX ii h,λh=>co5,λh=>co5,λ_=>rfl,λh=>by simp[aY6,jQ]at h,λh=>aX ii h,λ_ h=>aX ii h⟩
 .have h:(List.replicate N ({}:fE))[s]?=some sd:=h;grind
 have B:(gj p N most a).gs.map Yu=p.map aH7:=by show(p.map jQ).map Yu=_;rw[List.map_map];apply bI8;intro l _;show Yu (jQ l)=_;unfold Yu jQ;simp
 have D:Rn (gj p N most a).ax=p.length:=by show((List.replicate p ((0:Int),false)).map λs=>if s.1=2 then 0 else 1).sum=_;simp
 have F:Xr (gj p N most a).ef=0:=by show((List.replicate 16 ({}:Ct)).map λl=>l.count.toNat).sum=0;decide
 grind [work,DY]
end
def xK(p:be)(a:ce)(k:Nat)(S:Wd):Prop:=Row p a k S/\(Inv2 {S with av:=S.av+1}/\bn1 k S)/\work S<=DY p
section
variable{k:Nat}{p:be}{UB:ce}
section
variable(R:xK p UB k t)(hd:UB.length<=100000)(hk:k<900000)(hr:bU t.ax X=0)
include R hd hk hr
theorem xK.aW6:∃S',uj {t with av:=t.av+1} X S'/\xK p UB (k+1) S'/\(S'={t with av:=t.av+1}/\(∃x,t.gs[X]?=some x/\JM t x)\/work S'+1<=work t):=by
 obtain⟨S',c,d⟩:=R.1.next hd hk hr;obtain⟨l,I⟩:=R.1.inv;have e:Inv {t with av:=t.av+1} l:=I.same ii ii ii ii ii ii ii ii;have a:=R.2.1.1
 have j:X<t.ax.length:=by
  rcases aj8 X t.ax with h|h
  .exact h
  unfold bU idx at hr;grind
 have b:t.gs[X]?=some (t.gs[X]'(by rw[<-I.ax];exact j)):=fv _;have m:=R.1.drawn;rcases aT2 e a b (SF hr j) m.1 (by show kJ t.drawn=true;unfold kJ;simp;omega) c with⟨rfl,o⟩|⟨s,E⟩
 .exact⟨_,c,⟨d,⟨a.same ii ii ii ii ii ii (by have:=a.stp;show 1<=t.av+1+1;have h:1<=t.av+1:=this;omega),R.2.1.2.more oX _⟩,R.2.2⟩,.inl ⟨ii,_,b,o⟩⟩
 obtain⟨f,i⟩:=E.fin e a b;have i:work S'+1<=work t:=i;obtain⟨u,q⟩:=d.inv;have v:=R.1.av;have r:=E.am0 e q f b (n:=k) oX (by show t.av+1=_;omega) (R.2.1.2.more (ae1 _) _);exact⟨S',c,⟨d,⟨f.same ii ii ii ii ii ii (by have:=f.stp;show 1<=S'.av+1;omega),by rw[Int.natCast_add];exact r⟩,by have:=R.2.2;omega⟩,.inr i⟩
theorem xK.next:∃S',uj {t with av:=t.av+1} X S'/\xK p UB (k+1) S':=by
 obtain⟨S',a,b,_⟩:=R.aW6 hd hk hr;exact⟨S',a,b⟩
end
theorem wI(P:aY4 p){N:Nat}(c:N<=64){most:Int}(d:1<=most/\most<=16)(UB:ce)(e:UB.length<=1000):xK p UB 0 (gj p N most UB):=by
 obtain⟨a,b⟩:=aS0 p N most UB e [] 0 [];exact⟨GH P c d UB,a,at4 b⟩
theorem Vh(p:be)(UB:ce)(a:UB.length<=100000)(b:∀v∈UB,0<=v/\v<=65535):T6 900000 (xK p UB):=by
 have G:=au9 p UB a b;exact⟨λk t R=>G.ax k t R.1,λk t R=>G.av k t R.1,λk t X R h=>G.who k t X R.1 h,λk t X R c d=>G.aG k t X R.1 c d⟩
theorem xK.Um(R:xK p UB k t)(n:∀l∈p,CY l)(s:k<=900000):∃e,Go.Proofs.YtadifmnmfnihdaaGreat.tc t e:=by
 obtain⟨R,⟨f,_⟩,_⟩:=R;obtain⟨e,I⟩:=R.inv;have u:=I.n8;refine⟨e,I.JZ,?_,f.ds,by have:=R.len;omega,oX,λj x c=>?_,I.Eg.aC,λj x c=>?_,I.c8,I.au,I.aO,I.q,I.bM,λl o=>?_,by have:=I.aS;have:=I.JZ;omega⟩
 .have:=I.Eg.ok.ml;omega
 .have d:=(f.g2 j x c).sh;have i:x.ops∈p:=by rw[<-R.ops];exact ak3.2 ⟨x,lf c,ii⟩
  refine⟨n _ i,jm d.1 oX,jm d.2.1 oX,jm d.2.2 oX,by have:=GF I c;omega⟩
 .have d:=I.Eg.most x (lf c);have:=I.Eg.ok.cl x (lf c);omega
 obtain⟨i,m⟩:=List.getElem?_of_mem o;have:=jy 64 l (I.q.nodup i l m) (λy r=>by obtain⟨a,b,rfl⟩:=al8 r;have d:=(uC (I.q.thing i a b y m)).1;have:=I.aS;have:=I.JZ;omega);omega
end
end V
open Go.RowKit Go.Maps Go.ChangeMaps Go.Proofs.Tryz
theorem jh.other{f:Int->Int}(h:jh v b n f)(c:w'.heap[b]?=v.heap[b]?):jh w' b n f:=by
 obtain⟨D,⟨d,a,e,r⟩,g⟩:=h;exact⟨D,⟨d,a,c.trans e,r⟩,g⟩
theorem fH.other{w w':World}{s a b c d:Nat}{f1 f2:Int->Int}(h:fH w s a b c d f1 f2)(e:w'.heap[s]?=w.heap[s]?)(f:w'.heap[a]?=w.heap[a]?)(g:w'.heap[b]?=w.heap[b]?):fH w' s a b c d f1 f2:=
 ⟨e.trans h.aV,h.m1.other f,h.m2.other g,h.Km,h.Nu,h.ne⟩
theorem wJ{B size:Nat}{v:Value}{d:bi}(h:u.ownsRow B b size v n d)(e:∀g,v.ownBlock=some g->w'.heap[g]?=u.heap[g]?):w'.ownsRow B b size v n d:=by
 refine⟨h.1,?_⟩;rcases h.2 with a|⟨g,cap,c,a,f,i,j⟩
 .exact .inl a
 exact .inr ⟨g,cap,c,a,f,(e g (by rw[a];rfl)).trans i,j⟩
theorem Rd.other{off:Nat}(a:Rd .i64 v (b,off) h)(d:w'.heap[b]?=v.heap[b]?):Rd .i64 w' (b,off) h:=by
 refine⟨a.1,λc=>?_⟩;obtain⟨f,g,e,i⟩:=a.2 c;grind [Go.World.cell?_of_block]
def Dv(b:Nat)(F:Fx)(c:Mem)(a:World)(d:Nat)(LE:List (Nat×Obj))(e:bv)(w:World)(S:Wd):Prop:=
 ∃m,jS F d LE/\AB b F c a m w S LE/\∀k∈e,a<=k/\k<w/\(∀r,m.aV r≠k)/\∀p∈LE,p.1≠k
section
variable{af eb:Nat}{F:Fx}{m0:Mem}{w0 w:World}{bs bs':bv}{LE:List (Nat×Obj)}
section
variable(D:Dv af F m0 w0 eb LE bs w t)
include D
theorem Dv.call{args:dl}{v:Value}(h:∀m0 w0 m L,AB af F m0 w0 m w t L->jS F eb L->Calls prog b args w λe w'=>e=v/\TB af F m0 w0 S' L w'):Calls prog b args w λe w'=>e=v/\Dv af F m0 w0 eb LE bs w' S'/\(∀k∈bs,w'.heap[k]?=w.heap[k]?)/\w<=w'.heap.size:=by
 obtain⟨m,j,l,f⟩:=D;have n:∀k∈bs,∃o,w.heap[k]?=some o:=λk a=>⟨_,xL (f k a).2.1⟩
 have q:AB af F m0 w0 m w t (LE++bs.filterMap λk=>(w.heap[k]?).map λo=>(k,o)):=by refine⟨l.at_,λp r=>?_⟩;grind [AB.loc]
 have x:jS F eb (LE++bs.filterMap λk=>(w.heap[k]?).map λo=>(k,o)):=as6 _ j;have g:AB af F m w m w t (LE++bs.filterMap λk=>(w.heap[k]?).map λo=>(k,o)):=⟨At.refl l.bj,q.loc⟩;refine(h m w m _ g x).mono ?_;rintro e w' ⟨y,z,d⟩;have i:=q.av d.at_;have s:∀k∈bs,∀o,w.heap[k]?=some o->(k,o)∈LE++bs.filterMap λk=>(w.heap[k]?).map λo=>(k,o):=λk a o c=>List.mem_append_right _ (List.mem_filterMap.2 ⟨k,a,by rw[c];rfl⟩)
 have u:∀k∈bs,w'.heap[k]?=w.heap[k]?:=λk a=>by obtain⟨o,c⟩:=n k a;rw[(i.loc _ (s k a o c)).1,c]
 refine⟨y,⟨z,j,i.less (λp r=>as6 _ r),λk a=>?_⟩,u,?_⟩
 .obtain⟨o,c⟩:=n k a;refine⟨(f k a).1,?_,(i.loc _ (s k a o c)).2,(f k a).2.2.2⟩;have:=u k a;rw[c]at this;exact(dh this).1
 exact d.at_.mv.size
theorem Dv.look:∃m L,jS F eb L/\AB af F m0 w0 m w t L:=by
 obtain⟨m,a,b,_⟩:=D;exact⟨m,LE,a,b⟩
theorem Dv.tb:TB af F m0 w0 t LE w:=by
 obtain⟨m,b,a,_⟩:=D;exact⟨m,a⟩
theorem Dv.aW6(n:w'.os=w.os)(o:w'.tape=w.tape)(q:w'.output=w.output)(g:w<=w'.heap.size)(i:∀k,k<w.heap.size->k ∉ bs->w'.heap[k]?=w.heap[k]?)(c:∀k∈bs',k∈bs\/w<=k/\k<w'):Dv af F m0 w0 eb LE bs' w' t:=by
 obtain⟨m,s,a,f⟩:=D;have l:∀p∈LE,p.1<w:=λp d=>(dh (a.loc p d).1).1
 refine⟨m,s,⟨⟨⟨n.trans a.at_.mv.os,o.trans a.at_.mv.tape,q.trans a.at_.mv.output,jm a.at_.mv.size g,λb c u=>?_,a.at_.mv.old⟩,a.bj.heap λr b c=>i b (a.bj.lt c) (λe=>(f b e).2.2.1 r c)⟩,λp d=>⟨?_,(a.loc p d).2⟩⟩,λk j=>?_⟩
 .rw[i b (uB c a.at_.mv.size) (λe=>by have:=(f b e).1;omega)];exact a.at_.mv.keep b c u
 .rw[i p.1 (l p d) (λe=>(f _ e).2.2.2 p d ii)];exact(a.loc p d).1
 rcases c k j with c|c
 .obtain⟨v,z,x,y⟩:=f k c;exact⟨v,oX,x,y⟩
 exact⟨by have:=a.at_.mv.size;omega,c.2,λr e=>aX (a.bj.lt e) oX,λp d e=>by have:=l p d;omega⟩
end
end
def qZ(f:Int->Int)(run:ce)(k:Int)(n:Nat):Int:=if k<=f (qV f (run.getD 0 0) run)+n then qV f (run.getD 0 0) run else pA run 0
structure Re(Q:Nat->Wd->(Int->Int)->Prop)(k:Int)(n most:Nat):Prop where
 ax:∀j S f,Q j S f->S.ax.length<=20
 av:∀j S f,Q j S f-> -1000000000<=S.av/\S.av<=1000000000
 who:∀j S f g,Q j S f->g∈cE S.ax->∃i:Nat,g=i/\bU S.ax g=0
 aG:∀j S f (g:Nat),Q j S f->j<most->bU S.ax g=0->Cp {S with av:=S.av+1} g
 gs:∀j S f,Q j S f->S.gs=n
 age:∀j S f,Q j S f->∀g,0<=f g/\f g<=1000000
 next:∀j S f,Q j S f->j<most->cE S.ax≠[]->∀g:Nat,qZ f (cE S.ax) k n=g->∃S',uj {S with av:=S.av+1} g S'/\Q (j+1) S' (iC g (cE S.ax) f)
theorem Xj:(prog.info? 83).map (λi=>(i.zero,i.size,i.bytes))=some (some (.agg #[I 0,()]),2,32):=kX
structure Rf(af:Nat)(F:Fx)(m0:Mem)(w0:World)(eb:Nat)(LE:List (Nat×Obj))(Q:Nat->Wd->(Int->Int)->Prop)(w wr:World)(s j:Nat)(la:am)(lc:Nat)(S:Wd)(f g2:Int->Int)(b1 b2 n1 n2:Nat)(lb:Option Nat)(cs:bi):Prop where
 q:Q j S f
 Bt:fH wr s b1 b2 n1 n2 f g2
 row:wr.ownsRow w 83 2 (la,j,lc) j cs
 la_:(Value.slice la j lc).ownBlock=lb
 dv:Dv af F m0 w0 eb LE (s::b1::b2::lb.toList) wr S
 le:w<=s/\w<=b1/\w<=b2/\w<=wr.heap.size
 ne:∀b,lb=some b->b≠s/\b≠b1/\b≠b2
theorem JN{L:List (Nat×Obj)}{a:Nat->Wd->(Int->Int)->Prop}{most:Nat}(c:Re a Y X most)(T:TB n G Q u t L w')(he:jS G z L)(hQ:a 0 t (λ_=>0))(w:0<=Y/\Y<=1000000)(W:X<=1000)(hm:most<=900000)(pc:Nat):gt 11 #[z,(),Y,I most] w' λe d=>∃O j R S f,a j S f/\(cE S.ax=[]\/j=most)/\e=Value.tuple #[.slice O j R,.bool (cE S.ax=[])]/\TB n G Q u S L d:=by
 obtain⟨i0,hi,fV,jC,gG⟩:=AC Xj;have a6:Hid (Dv n G Q u z L [] w' t):=by obtain⟨m,k⟩:=T;exact⟨m,he,k,λY h=>ck3⟩
 have a7:=ag (DU w');obtain⟨HG,HQ⟩:=dA c hQ;clear c hQ;go_enter func11,ntmps11;go_wp2_with (go_at_call 27;refine a7.out.mono ?_;rintro e w1 ⟨s,b1,b2,rfl,hA,hB,h1,h2,h3⟩;have pI:Hid (∃S f g2 b1 b2 n1 n2 C cs,Rf n G Q u z L a w' w1 s 0 none 0 S f g2 b1 b2 n1 n2 C cs):=⟨t,_,_,b1,b2,0,0,none,[],HQ,hA,ai9 _ _ _ _,ii,a6.out.aW6 hB.os hB.tape hB.output hB.size (λY w _=>hB.block Y w) (λY w=>by(simp at w;rcases w with rfl|rfl|rfl;exact .inr ⟨h1,hA.lt⟩;exact .inr ⟨h2,hA.m1.lt⟩;exact .inr ⟨h3,hA.m2.lt⟩)),⟨h1,h2,h3,hB.size⟩,λb h=>ck3⟩;clear hA hB h1 h2 h3);go_loopw [12] (λl wr=>∃(j:Nat) (O:am) (R:Nat),l=(O,j,R)/\j<=most/\Hid (∃S f g2 b1 b2 n1 n2 C cs,Rf n G Q u z L a w' wr s j O R S f g2 b1 b2 n1 n2 C cs)) (λl _=>most-(match l with| .slice _ j _=>j|_=>0))
 case atStart=>exact⟨0,none,0,ii,oX,pI⟩
 clear pI a6 a7 HQ;obtain⟨j,O,R,rfl,hj,HS⟩:=hrel;obtain⟨S,f,g2,c1,c2,n1,n2,C,cs,D⟩:=HS.out;obtain⟨m,L2,hE,k⟩:=D.dv.look;have GQ:=ag (pT k hE (by have:=HG.out.ax j S f D.q;omega));obtain⟨run,ta⟩:=dC (cE S.ax);rw[<-ta]at GQ;have y:=ag D;have RV:=ag ta;clear D k hE HS ta;have a2:run.length<=20:=by have h1:=HG.out.ax j S f y.out.q;have h2:=xg S.ax 0;grind [Hid.out,cE]
 obtain⟨M,UR⟩:=dC (run.length);rw[<-UR]at a2;have G8:=ag UR;clear UR;by_cases dD:j<most
 .by_cases tS:run=[]
  .have p:M=0:=by rw[G8.out,tS];rfl
   have r:=ag tS;subst p;go_upto_region 6 with(go_at_call 28;refine GQ.out.mono ?_;rintro e w2 ⟨v,rfl,ho,E⟩;obtain⟨ra,J,rfl,jF⟩:=bY6;rw[<-G8.out];have U:=ag E;clear ho E jF)
   clear tS;go_wp2;go_ret2;refine⟨O,j,R,S,f,y.out.q,.inl (by rw[<-RV.out];exact r),by rw[<-RV.out,r.out];rfl,?_⟩;exact(y.out.dv.aW6 (bs':=[]) U.out.os U.out.tape U.out.output U.out.size (λY w _=>U.out.block Y w) (λY h=>ck3)).tb
  have a8:0<M:=by rw[G8.out];exact pd tS
  go_upto_region 9 with(go_at_call 28;refine GQ.out.mono ?_;rintro e w2 ⟨v,rfl,ho,E⟩;obtain⟨ra,J,rfl,jF⟩:=bY6;rw[<-G8.out];obtain⟨U,HO,CZ⟩:=ij E ho jF;clear ho E jF)
  obtain⟨A,Yo,aS,aU⟩:∃A,ra=some ⟨A,0,none⟩/\wr<=A/\A<w2:=by
   have ho:=HO.out;unfold yv at ho;rcases ho.2 with⟨_,h0⟩|⟨g,cap,aY,he,hB,B,_⟩
   .simp_all
   simp only[as9]at he;exact⟨g,he.1,hB,(dh B).1⟩
  subst Yo;have vz:wr.heap.size<=w2.heap.size:=U.out.size;go_upto_region 12 with fail
  obtain⟨x,YM⟩:=dC (w2.heap.size);obtain⟨w3,xY⟩:=dC (w2.alloc (.cells #[I 0,.slice (some ⟨A,0,none⟩) M J] 83));rw[<-xY,<-YM];have yJ:Below wr wr w3:=by rw[xY];exact U.out.alloc vz _
  have OT:w3=x+1:=by rw[xY,YM];simp
  have xy:w3.heap[x]?=some (.cells #[I 0,.slice (some ⟨A,0,none⟩) M J] 83 (0,0)):=by rw[xY,YM];exact dP
  have Xk:Rd .i64 w3 (some ⟨A,0,none⟩) run:=by rw[xY];exact CZ.out.below ((ae5 w2 w2).alloc cG _) cG
  have Z:s<wr.heap.size/\c1<wr.heap.size/\c2<wr:=⟨y.out.Bt.lt,y.out.Bt.m1.lt,y.out.Bt.m2.lt⟩;have SZ:fH w3 s c1 c2 n1 n2 f g2:=y.out.Bt.other (yJ.block _ Z.1) (yJ.block _ Z.2.1) (yJ.block _ Z.2.2)
  have a3:Dv n G Q u z L (x::A::s::c1::c2::C.toList) w3 S:=y.out.dv.aW6 yJ.os yJ.tape yJ.output yJ.size (λY w _=>yJ.block Y w) (λY w=>by
   simp only[iL]at w ⊢;rcases w with h|h|h|h|h|h
   .right;rw[h];omega
   .right;rw[h];omega
   .exact .inl (.inl h)
   .omega
   .omega
   exact .inl (.inr (.inr (.inr h))))
  have SX:∀p∈run,(Lit.int .i64 p).wf=true:=λp hz=>by
   obtain⟨i,rfl,hi⟩:=HG.out.who j S f p y.out.q (by rw[<-RV.out];exact hz);have E:=HG.out.ax j S f y.out.q
   have:i<S.ax.length:=by
    rcases aj8 i S.ax with h|h
    .exact h
    unfold bU idx at hi;simp_all
   exact WalkArith.wf_i64 oX
  have a9:=ag (Gg (some ⟨A,0,none⟩) J Y X w3 G8 a2 a8 SZ Xk SX (HG.out.age j S f y.out.q) w W);obtain⟨m3,LL,ab,X3⟩:=a3.look;have ec:=ab.cell X3;have eg:=X3.bj.eu;rw[HG.out.gs j S f y.out.q]at eg;obtain⟨tK,vC,au,aw,ay,SY⟩:=mr yJ SZ a3 Xk xy SX;obtain⟨o,ho⟩:=dC (qV f (run.getD 0 0) run);rw[<-ho]at a9;have Yf:=ag ho;have Yp:Hid (wr<=x/\A<x):=⟨oX,oX⟩;clear xY yJ xy Xk SZ a3 SX X3 ab ho YM;have Xw:Hid (∀g:Nat,qZ f run Y X=g->∃F,uj {S with av:=S.av+1} g F/\a (j+1) F (iC g run f)):=λg B=>by have:=HG.out.next j S f y.out.q dD (by rw[<-RV.out];exact tS) g (by rw[<-RV.out];exact B);rw[<-RV.out]at this;exact this
  have ie:Hid (∀g:Nat,bU S.ax g=0->Cp {S with av:=S.av+1} g):=λg B=>HG.out.aG j S f g y.out.q dD B
  have pI:=ag (HG.out.av j S f y.out.q);have ad:Hid (∀g∈run,∃i:Nat,g=i/\bU S.ax g=0):=λg B=>HG.out.who j S f g y.out.q (by rw[<-RV.out];exact B)
  have aB:=ag (HG.out.ax j S f y.out.q);go_upto_if 58 with(go_at_call 29;refine a9.out.mono ?_;rintro e K ⟨rfl,ae⟩;have ah:=ag ae;clear ae)
  have Kk:o∈run:=by
   have h0:run.getD 0 0∈run:=(by rw[c9X,fv (by rw[<-G8.out];exact a8)];exact at2 _);rw[Yf.out];rcases sw f run (run.getD 0 0)with h|h
   .rw[h];exact h0
   exact h
  obtain⟨d4,xX⟩:=ah.out;have Nz:K.heap=w3.heap:=by rw[xX];rfl
  have ai:Dv n G Q u z L (x::A::s::c1::c2::C.toList) K S:=au.out.aW6 (by rw[xX];rfl) (by rw[xX];rfl) (by rw[xX];rfl) (by rw[Nz];omega) (λY w _=>by rw[Nz]) (λY w=> .inl w);have ak:fH K s c1 c2 n1 n2 f g2:=vC.out.other (by rw[Nz]) (by rw[Nz]) (by rw[Nz]);have al:Rd .i64 K (some ⟨A,0,none⟩) run:=by rw[xX];exact aw
  have a0:K.heap[x]?=some (.cells #[I 0,.slice (some ⟨A,0,none⟩) M J] 83 (0,0)):=by rw[Nz];exact ay
  have ao:K.ownsRow w' 83 2 (O,j,R) j cs:=wJ y.out.row (λg B=>by
   rw[Nz];refine tK.out.block g ?_;rcases y.out.row.2 with⟨h1,_⟩|⟨g',_,_,h1,_,h2,_⟩
   .rw[h1]at B;cases B
   rw[h1]at B;cases B;exact(dh h2).1)
  have aZ:K.cell? x=I 0:=by rw[cr a0];rfl
  have b0:=iM K x 0 a0;have Xl:=ag (dO ai (dO ak (dO al (dO a0 ao))));have b3:w3=K.heap.size:=by rw[Nz]
  have Zx:=ag Kk;clear xX Nz ai ak al a0 ao Kk ec eg ah
  have yV:Hid (∀(N:World) (g:Nat) (F:Wd),a (j+1) F (iC g run f)->Dv n G Q u z L (x::A::s::c1::c2::C.toList) N F->N.heap[x]?=some (.cells #[I g,.slice (some ⟨A,0,none⟩) M J] 83 (0,0))->(∀Y∈A::s::c1::c2::C.toList,N.heap[Y]?=K.heap[Y]?)->K<=N.heap.size->
    ∃(g:Nat) (F:Wd),a (j+1) F (iC g run f)/\Dv n G Q u z L (x::A::s::c1::c2::C.toList) N F/\N.heap[x]?=some (.cells #[I g,.slice (some ⟨A,0,none⟩) M J] 83 (0,0))/\fH N s c1 c2 n1 n2 f g2/\
    Rd .i64 N (some ⟨A,0,none⟩) run/\N.ownsRow w'.heap.size 83 2 (.slice O j R) j cs/\w3.heap.size<=N.heap.size):=λN g F q1 q2 q3 q4 q5=>by
   obtain⟨z1,z2,z3,z4,z5⟩:=Xl.out;refine⟨g,F,q1,q2,q3,z2.other (q4 _ sX) (q4 _ sX) (q4 _ sX),z3.other (q4 _ sX),wJ z5 (λg B=>q4 g ?_),oX⟩;rw[y.out.la_]at B;rw[B];simp
  have aq:Hid (∀Y∈A::s::c1::c2::C.toList,Y≠x):=λY w=>by
   have h1:=y.out.Bt.lt;have h2:=y.out.Bt.m1.lt;have h3:=y.out.Bt.m2.lt;obtain⟨t1,t2⟩:=Yp.out;simp only[iL]at w;rcases w with rfl|rfl|rfl|rfl|h
   .omega
   .omega
   .omega
   .omega
   have jO:C=some Y:=by cases C with
    |none=>simp at h
    |some b=>simp at h;rw[h]
   have:=y.out.la_;rw[jO]at this;rcases y.out.row.2 with⟨h4,_⟩|⟨g',_,_,h4,_,h5,_⟩
   .rw[h4]at this;cases this
   rw[h4]at this;cases this;have:=(dh h5).1;intro e;have e2:g'=x:=e;omega
  go_cut [16,17]from 21 to 74 (λr _ N=>r=I o/\Hid (∃(g:Nat) (F:Wd),a (j+1) F (iC g run f)/\Dv n G Q u z L (x::A::s::c1::c2::C.toList) N F/\N.heap[x]?=some (.cells #[I g,.slice (some ⟨A,0,none⟩) M J] 83 (0,0))/\fH N s c1 c2 n1 n2 f g2/\
    Rd .i64 N (some ⟨A,0,none⟩) run/\N.ownsRow w'.heap.size 83 2 (.slice O j R) j cs/\w3.heap.size<=N.heap.size))
  case first=>
   by_cases eK:Y<=f o+X
   .obtain⟨g,B,jf⟩:=ad.out o Zx;obtain⟨F,hd,hq⟩:=Xw.out g (by unfold qZ;rw[<-Yf.out,aF eK];exact B);subst B;have a4:=ag hq;have ES:Hid (gt 30 #[z,I g] (K.setCell x (I g)) λe d=>e=Value.bool true/\Dv n G Q u z L (x::A::s::c1::c2::C.toList) d F/\(∀Y∈x::A::s::c1::c2::C.toList,d.heap[Y]?=(K.setCell x (I g)).heap[Y]?)/\(K.setCell x (I g)).heap.size<=d):=(by have D5:Dv n G Q u z L (x::A::s::c1::c2::C.toList) (K.setCell x (I g)) S:=Xl.out.1.aW6 ii ii ii co3 (λY w W=>fQ (by simp at W ⊢;exact W.1)) (λY w=> .inl w);exact D5.call λQ u m L k hE=>GD k hE jf pI (ie g jf) hd);clear hd hq jf;have aC:decide (Y<=f (g:Int)+X)=true:=(by simp[eK]);go_wp2_with (go_at_call 30;refine ES.out.mono ?_;rintro e w6 ⟨rfl,D6,nV,H⟩;have H6:=ag (dO D6 (dO nV H));clear D6 nV H);go_meet;obtain⟨D6,nV,H⟩:=H6.out;refine⟨ii,yV w6 g F a4 D6 ?_ (λY w=>?_) (by simpa[World.setCell]using H)⟩
    .rw[nV x sX];exact ms K x 0 _ _ (I g) Xl.out.2.2.2.1
    rw[nV Y (nO _ w)];exact fQ (by simpa using aq.out Y w)
   obtain⟨g,B,jf⟩:=ad.out _ (vt tS 0);obtain⟨F,hd,hq⟩:=Xw.out g (by unfold qZ;rw[<-Yf.out,aE eK];exact B);have a4:=ag hq
   have ES:Hid (gt 25 #[.pointer (some ⟨z,0,none⟩),I 0] K λe d=>e=.returned (I g)/\Dv n G Q u z L (x::A::s::c1::c2::C.toList) d F/\(∀Y∈x::A::s::c1::c2::C.toList,d.heap[Y]?=K.heap[Y]?)/\K.heap.size<=d.heap.size):=
    Xl.out.1.call λQ u m L k hE=>zZ k hE (by have:=aB.out;omega) 0 oX run RV tS B (by rw[<-B];exact jf) pI (ie g (by rw[<-B];exact jf)) hd
   clear hd hq jf B;have aC:decide (Y<=f o+X)=false:=(by simp[eK]);go_wp2_with (go_at_call 25;refine ES.out.mono ?_;rintro e w6 ⟨rfl,D6,nV,H⟩;have b4:w6.cell? x=I 0:=(by rw[cr ((nV x sX).trans Xl.out.2.2.2.1)];rfl);have b5:=iM w6 x 0 ((nV x sX).trans Xl.out.2.2.2.1);have H6:=ag (dO D6 (dO nV H));clear D6 nV H);go_meet;obtain⟨D6,nV,H⟩:=H6.out;refine⟨ii,yV _ g F a4 (D6.aW6 ii ii ii co3 (λY w W=>fQ (by simp at W ⊢;exact W.1)) (λY w=> .inl w)) ?_ (λY w=>?_) (by simpa[World.setCell]using H)⟩
   .exact ms w6 x 0 _ _ (I g) ((nV x sX).trans Xl.out.2.2.2.1)
   rw[fQ (by simpa using aq.out Y w)];exact nV Y (nO _ w)
  obtain⟨rfl,HC⟩:=hcut;obtain⟨g,F,q1,q2,q3,q4,q5,q6,q7⟩:=HC.out;have e0:wc.cell? x=some (I g):=by rw[cr q3];rfl
  have e1:wc.cell? (x,1)=some (.slice (some ⟨A,0,none⟩) M J):=by rw[cr q3];rfl
  have Z:s<wr.heap.size/\c1<wr.heap.size/\c2<wr:=⟨y.out.Bt.lt,y.out.Bt.m1.lt,y.out.Bt.m2.lt⟩;have aH:=ag (Ma (who:=(g:Int)) (some ⟨A,0,none⟩) J wc G8 a2 q4 q5 SY (HG.out.age j S f y.out.q) (λ_ b off e=>by cases e;exact⟨oX,oX⟩));have Rs:=ag (dO q1 (dO q2 (dO q3 (dO q4 (dO q5 (dO q6 q7))))));have XO:=ag Z;clear q1 q2 q3 q4 q5 q6 q7 HC Z;go_upto_region 18 with(go_at_call 31;refine aH.out.mono ?_;rintro e w5 ⟨rfl,A5,B5⟩;obtain⟨Vi,vV⟩:=dA B5 A5;clear A5 B5)
  have ar:w3.heap.size<=w5.heap.size:=jm Rs.out.2.2.2.2.2.2 Vi.out.size;have a1:∀b,(Value.slice O j R).ownBlock=some b->b≠s/\b≠c1/\b≠c2:=λb E=>y.out.ne b (by rw[<-y.out.la_];exact E)
  have h5:w5.heap[x]?=some (.cells #[I g,.slice (some ⟨A,0,none⟩) M J] 83 (0,0)):=by rw[<-Rs.out.2.2.1];exact Vi.out.block x (by have:=Rs.out.2.2.2.2.2.2;omega) (by have:=Yp.out;omega) (by have:=Yp.out;omega)
  have f0:w5.cell? x=some (I g):=by rw[cr h5];rfl
  have f1:w5.cell? (x,1)=some (.slice (some ⟨A,0,none⟩) M J):=by rw[cr h5];rfl
  have Xm:∀b,(Value.slice O j R).ownBlock=some b->b<wr.heap.size:=λb E=>by
   rcases y.out.row.2 with⟨h4,_⟩|⟨g',_,_,h4,_,h6,_⟩
   .rw[h4]at E;cases E
   rw[h4]at E;cases E;grind
  have nv:Hid (w5.ownsRow w'.heap.size 83 2 (.slice O j R) j cs):=wJ Rs.out.2.2.2.2.2.1 (λb E=>Vi.out.block b (by have:=Xm b E;have:=Rs.out.2.2.2.2.2.2;have:=Yp.out;omega) (a1 b E).1 (a1 b E).2.2);have aI:w'.heap.size<=w5.heap.size:=by have:=y.out.le;have:=Yp.out;omega
  have aJ:=ag ar;obtain⟨xH,b6⟩:=dA a1 Xm;clear a1 Xm ar h5;have Ni:j<1000001:=oX
  go_wp2_with (at_builtin;go_loud (refine aY2 (us:=#[I g,.slice (some ⟨A,0,none⟩) M J]) (w2:=w5) ii (.tmp 71) (.tmp 73) 53 rfl underlying53 hi fV jC gG ii dX dX ii ii cj0 (O,j,R) j ii nv w5 ii ii Ni aI ?_));intro lg aK w6 Ak jE lN
  have hN:Hid (∃S f g2 b1 b2 n1 n2 C cs,Rf n G Q u z L a w' w6 s (j+1) lg aK S f g2 b1 b2 n1 n2 C cs):=by
   obtain⟨q1,q2,q3,q4,q5,q6,q7⟩:=Rs.out;have a5:=y.out.le;have ht:=Yp.out;have hl:=XO.out;have H:=jE.size;have ha:(w5.alloc (.cells #[I g,.slice (some ⟨A,0,none⟩) M J] 83)).heap.size=w5.heap.size+1:=sX;have b7:=aJ.out;have aN:lg<w6:=by rcases Ak.2 with⟨h4,_⟩|⟨g',_,_,h4,_,h6,_⟩;all_goals grind
   have b8:w'<=lg:=by rcases Ak.2 with⟨h4,_⟩|⟨g',_,_,h4,h5,h6,_⟩;all_goals grind
   have rI:∀Y,Y<w5.heap.size->(Value.slice O j R).ownBlock≠some Y->w6.heap[Y]?=w5.heap[Y]?:=λY w W=>by grind [World.grownBy.block,heap_alloc_old]
   have aO:fH w6 s c2 c1 M n1 (iC (g:Int) run f) f:=vV.out.other (rI _ oX (λe=>(xH _ e).1 rfl)) (rI _ oX (λe=>(xH _ e).2.2 rfl)) (rI _ oX (λe=>(xH _ e).2.1 rfl));have aQ:Dv n G Q u z L (x::A::s::c1::c2::C.toList) w5 F:=q2.aW6 Vi.out.os Vi.out.tape Vi.out.output Vi.out.size (λY w W=>Vi.out.block Y w (λe=>W co9) (λe=>W co9)) (λY w=> .inl w)
   have aR:Dv n G Q u z L (s::c2::c1::(some lg).toList) w6 F:=aQ.aW6 jE.os jE.tape jE.output oX (λY w W=>rI Y w (λe=>W (by
     have:C=some Y:=by rw[<-y.out.la_];exact e
     rw[this];simp))) (λY w=>by
    simp only[iL,ay4,ak4,aC5]at w;rcases w with h|h|h|h
    .left;rw[h];simp
    .left;rw[h];simp
    .left;rw[h];simp
    rcases lN with h1|h1
    .left;have:C=lg:=by rw[<-y.out.la_];exact h1
     rw[this,h];simp
    right;rw[h];exact⟨oX,aN⟩)
   refine⟨F,_,_,c2,c1,M,n1,some lg,_,q1,aO,Ak,ii,aR,⟨a5.1,a5.2.2.1,a5.2.1,oX⟩,λb E=>?_⟩;grind [Hid.out]
  clear jE lN Ak;go_wp2;go_roundw;all_goals grind
 have r:j=most:=oX
 have x:Hid (gt 28 #[z] wr λe w2=>∃ra J,e=Value.slice ra M J/\Below wr wr w2):=GQ.out.mono (by rintro e w2 ⟨v,rfl,ho,E⟩;obtain⟨ra,J,rfl,jF⟩:=bY6;rw[<-G8.out];exact⟨ra,J,ii,E⟩);obtain⟨B,p⟩:=dC (decide (cE S.ax=[]));have F:decide ((M:Int)=0)=B:=by rw[p,G8.out,RV.out];simp_all
 have H:((M:Int)==0)=B:=F;have K:=ag p;have A:=ag r;clear p r GQ;go_wp2_with (go_at_call 28;refine x.out.mono ?_;rintro e w2 ⟨ra,J,rfl,E⟩;have U:=ag E;clear E);go_ret2;exact⟨O,j,R,S,f,y.out.q,.inr A,by have h:=K.out;subst h;rfl,(y.out.dv.aW6 (bs':=[]) U.out.os U.out.tape U.out.output U.out.size (λY w _=>U.out.block Y w) (λY h=>ck3)).tb⟩
def vu(S:Wd)(g:Nat):Option Wd:=
 match gh S g with
 |some (a,true)=>some a
 |_=>match S.gs[g]?,mf S g with
  |some x,some o=>
   if x.ae=0\/x.ae=20\/x.ae=18 then none else
   match(if o.ai=2\/o.ai=4 then jq S g else if o.ai=3\/o.ai=5 then jr S g else if o.ai=6 then js S g else if o.ai=9 then aS7 S g else none) with
   |some (a,true)=>some a
   |_=>none
  |_,_=>none
theorem Ec(h:uj t b E):vu t b=E:=by
 rcases h with h|⟨x,o,d,c,f,h⟩
 .unfold vu;rw[h]
 have g:gh t b=(t,false):=by unfold gh;grind
 unfold vu;rw[g];simp only[d,f];rw[aE (λh=>by rcases h with e|e|e;exact c.1 e;exact c.2.1 e;exact c.2.2 e)];rcases h with⟨a,h⟩|⟨a,h⟩|⟨a,h⟩|⟨a,h⟩
 .rw[aF a,h]
 .rw[aE oX,aF a,h]
 .rw[aE oX,aE oX,aF a,h]
 rw[aE oX,aE oX,aE oX,aF a,h]
def vw(a b:Int):Int->Int:=λi=>if i=0 then a else if i=1 then b else 0
def Rg(S:Wd):Bool:=match(S.done.filter λm=>m.g==1).map (·.res) with
 | [a,b]=>a.v==9&&a.ok&&!b.ok
 |_=>false
def GR:Nat->Wd->Int->Int->Bool
 |0,_,_,_=>false
 |n+1,S,a,b=>
  if cE S.ax=[]then Rg S else
  let g:=qZ (vw a b) (cE S.ax) 2 2
  if g=0\/g=1 then
   match vu {S with av:=S.av+1} g.toNat with
   |some c=>GR n c (iC g (cE S.ax) (vw a b) 0) (iC g (cE S.ax) (vw a b) 1)
   |none=>false
  else false
def ev:be:=[[{ai:=2,ch:=1,v:=9},{ai:=6,ch:=1}],[{ai:=3,ch:=1},{ai:=3,ch:=1}]]
def pV:Wd:={V.gj ev 2 1 []with au:=[{pl0:=[]}],aO:=[false],aq:=[-1]}
theorem M8:GR 199 pV 0 0:=cj9
theorem Rh{b:Int}(h:GR (n+1) t Y b)(a:cE t.ax≠[])(c:qZ (vw Y b) (cE t.ax) 2 2=z)(d:uj {t with av:=t.av+1} z E):GR n E (iC z (cE t.ax) (vw Y b) 0) (iC z (cE t.ax) (vw Y b) 1):=by
 unfold GR at h;rw[aE a]at h;simp only[c]at h;split at h
 .rw[oU,Ec d]at h;exact h
 cases h
theorem Al{f:Int->Int}{run:ce}{k:Int}(h:run≠[]):qZ f run k n∈run:=by
 grind [qZ,sw,vt]
theorem vx:V.aY4 ev:=by
 refine⟨dX,dX,?_⟩;intro l a o b;simp only[ev,iL,ak4,aC5]at a;rcases a with rfl|rfl
 all_goals
  simp only[iL,ak4,aC5]at b;rcases b with rfl|rfl
  all_goals exact⟨dX,dX,dX,dX,λc d=>by cases d⟩
theorem JO:V.xK ev [] 0 pV:=by
 have I:=V.bk9 vx (N:=2) oX (most:=1) oX [];have J:=I.grow dX (r:={pl0:=[]}) ⟨dX,dX,dX,dX,dX⟩ false;have R:=V.GH vx (N:=2) oX (most:=1) oX [];exact⟨⟨⟨_,J⟩,ii,oX,R.drawn,ii,R.ops,rx 0,λm h=>ck3⟩,(V.aS0 ev 2 1 [] dX _ 1 _).imp id at4⟩
def QA(j:Nat)(S:Wd)(f:Int->Int):Prop:=V.xK ev [] j S/\j<=198/\∃a b:Int,f=vw a b/\(0<=a/\a<=j)/\(0<=b/\b<=j)/\GR (199-j) S a b
theorem GS(who:Int)(run:ce)(f:Int->Int)(g:Int)(h:0<=f g):0<=iC who run f g/\iC who run f g<=f g+1:=by
 grind [iC]
theorem Ed(R:V.Row ev [] b t)(h:Y∈cE t.ax):(Y=0\/Y=1)/\∃k:Nat,Y=k/\bU t.ax k=0:=by
 obtain⟨k,rfl,a⟩:=V.sG h;refine⟨?_,k,ii,a⟩
 have c:k<t.ax.length:=by
  rcases aj8 k t.ax with h|h
  .exact h
  unfold bU idx at a;grind
 obtain⟨d,I⟩:=R.inv;have e:=I.ax;have f:t.gs.length=2:=by have:=congrArg List.length R.ops;simpa[ev]using this
 omega
theorem QA.next{j g:Nat}{S:Wd}{f:Int->Int}(h:QA j S f)(l:cE S.ax≠[])(m:qZ f (cE S.ax) 2 2=g):∃c,uj {S with av:=S.av+1} g c/\j≠198/\QA (j+1) c (iC g (cE S.ax) f):=by
 obtain⟨R,A,a,b,rfl,t,u,n⟩:=h;have v:(g:Int)∈cE S.ax:=by rw[<-m];exact Al l
 obtain⟨_,k,o,w⟩:=Ed R.1 v;have o:g=k:=oX
 subst o;obtain⟨c,p,x⟩:=R.next dX oX w;have y:199-j=(198-j)+1:=oX
 rw[y]at n;have q:=Rh n l m p;have d:j≠198:=by rintro rfl;simp[GR]at q
 refine⟨c,p,d,x,oX,_,_,?_,?_,?_,by rw[show 199-(j+1)=198-j by omega];exact q⟩
 .funext i;unfold vw;by_cases r:i=0
  .subst r;rfl
  by_cases s:i=1
  .subst s;rfl
  rw[aE r,aE s];unfold iC;rw[aE (λz=>by have:=(Ed R.1 z.1).1;omega)]
 .have:=GS g (cE S.ax) (vw a b) 0 (by show(0:Int)<=a;exact t.1);have e:vw a b 0=a:=rfl;omega
 have:=GS g (cE S.ax) (vw a b) 1 (by show(0:Int)<=b;exact u.1);have e:vw a b 1=b:=rfl;omega
theorem Ee:Re QA 2 2 198:=by
 refine⟨λj S f h=>?_,λj S f h=>?_,λj S f g h c=>V.sG c,λj S f g h d c=>?_,λj S f h=>?_,λj S f h g=>?_,λj S f h d i g c=>?_⟩
 .obtain⟨e,I⟩:=h.1.1.inv;grind [V.Inv.ax,V.Inv.n8]
 .have:=h.1.1.av;have:=h.1.1.most;omega
 .exact(V.Vh ev [] dX (λv e=>by cases e)).aG j S g h.1 oX c
 .have:=congrArg List.length h.1.1.ops;simpa[ev]using this
 .obtain⟨R,d,a,b,rfl,e,k,l⟩:=h;grind [vw]
 grind [QA.next]
theorem QA.start:QA 0 pV (λ_=>0):=⟨JO,by omega,0,0,by
 funext i;unfold vw;split
 .rfl
 split<;>rfl,oX,oX,M8⟩
theorem QA.fin{f:Int->Int}(h:QA z t f)(c:cE t.ax=[]\/z=198):cE t.ax=[]/\Rg t:=by
 by_cases d:cE t.ax=[]
 .refine⟨d,?_⟩;obtain⟨R,g,a,b,rfl,i,j,e⟩:=h;rw[show 199-z=(198-z)+1 by omega]at e;unfold GR at e;rw[aF d]at e;exact e
 exfalso;rcases c with c|c
 .exact d c
 have e:=Al (f:=f) (k:=2) (n:=2) d;obtain⟨_,k,g,_⟩:=Ed h.1.1 e;grind [next]
theorem uo:∀l∈ev,CY l:=by
 intro l a;simp only[ev,iL,ak4,aC5]at a;rcases a with rfl|rfl
 all_goals
  refine⟨dX,λo b=>?_⟩;simp only[iL,ak4,aC5]at b;rcases b with rfl|rfl
  all_goals exact⟨cm7,cm7,cm7,cm7,dX,λc d=>by cases d⟩
def Ef(o a b c d e f g h i j k l m n:Nat):bH->Option oJ
 | .aQ=>some (some o,0,[I 2,I 1,I 0,(),a,(),(),c,i,(e,2,f),l,g,(),()])
 | .dB=>some (some a,0,[(b,2,2)])
 | .ax=>some (some b,2,bT ry 0 (List.replicate 2 (0,false)))
 | .dY=>some (some c,0,[(d,1,1)])
 | .dQ=>some (some d,1,[I (-1)])
 | .ah=>some (some e,f,bT mg 0 (List.replicate 2 {}))
 | .gN=>some (some g,0,[(h,0,0),I 0])
 | .list=>some (some h,0,[])
 | .ef=>some (some i,0,[(j,2,2),(k,16,16)])
 | .aS=>some (some j,2,bT oD 0 (List.replicate 2 {}))
 | .bM=>some (some k,16,bT rG 0 (List.replicate 16 {}))
 | .Eg=>some (some l,0,[I 2,I 1,(m,2,2),(),I 0,(n,2,2)])
 | .aC=>some (some m,2,[(),()])
 | .bV=>some (some n,2,[B false,B false])
 |_=>none
def wO:Wd:={V.gj ev 2 1 []with aq:=[-1]}
theorem Xn{wr:World}{w R x H y S D J L E M N:Nat}{W:Nat}{f:bH->Option oJ}{B:Nat->CK->Option Nat}{K:Nat->CK->Nat}{C:Nat->CK->bi}(G:Ny n u wr (Ef z X cp w R x H y S D J L E M N) (λv=>[I 2,I 1,I 0,v,X,(),(),w,D,(x,2,H),E,y,(),()]) z ev 2 (A,2,W) f B K C):∃F m,F.aQ=z/\bz n F wr m wO:=by
 obtain⟨U,yp⟩:∃U,(f .gs).bind (·.1)=some U:=by
  cases h:(f .gs).bind (·.1) with
  |none=>have:=G.cU;rw[h]at this;simp[nG]at this
  |some g=>exact⟨g,ii⟩
 obtain⟨m,Y⟩:∃m:Mem,m=⟨λr=>(f r).bind (·.1),λr=>((f r).map (·.2.1)).getD 0⟩:=⟨_,ii⟩;have e:∀r,m.aV r=(f r).bind (·.1):=λr=>by rw[Y]
 have T:∀r,m.cap r=((f r).map (·.2.1)).getD 0:=λr=>by rw[Y]
 have hf:∀r,r≠ .aQ->r≠ .gs->(∀i,r≠ .ops i)->(∀i q,r≠ .cases i q)->f r=Ef z X cp w R x H y S D J L E M N r:=G.yf;have d:∀r:bH,f r=none->∀q,m.cU r q=():=λr h q=>by grind [Mem.j6]
 have s:∀(r:bH) (b c a:Nat) (t:bi),f r=some (some b,c,t)->m.cU r a=.slice (some ⟨b,0,none⟩) a c:=λr b c a t h=>by rw[Mem.de (show m.aV r=some b by rw[e,h];rfl),T,h];rfl
 have O:∀(r:bH) (b c:Nat) (t:bi),f r=some (some b,c,t)->m.ptr r=b:=λr b c t h=>Mem.lz (show m.aV r=some b by rw[e,h];rfl)
 have Q:∀i l,ev[i]?=some l->i<2:=λi l h=>(um h)
 have zd:∀g:Nat,wO.gs[g]?=(ev[g]?).map V.jQ:=λg=>na ..
 have Z:∀r,aj m wO r=((f r).map (·.2.2)).getD []:=by
  intro r;have BZ:=hf r
  cases r with
  |aQ=>
   rw[G.aQ];have p:m.cU .gs 2=(A,2,W):=(by rw[qC,e,T];exact G.cU.symm);show[I 2,I 1,I 0,m.cU .gs 2,m.ptr .dB,m.cU .au 0,m.cU .aO 0,m.ptr .dY,m.ptr .ef,m.cU .ah 2,m.ptr .Eg,m.ptr .gN,m.cU .UB 0,m.cU .done 0]=_;rw[p,O .dB X 0 _ (hf _ sX sX sX sX),d .au (hf _ sX sX sX sX),d .aO (hf _ sX sX sX sX),O .dY w 0 _ (hf _ sX sX sX sX),O .ef D 0 _ (hf _ sX sX sX sX),s .ah x H 2 _ (hf _ sX sX sX sX),O .Eg E 0 _ (hf _ sX sX sX sX),O .gN y 0 _ (hf _ sX sX sX sX),d .UB (hf _ sX sX sX sX),d .done (hf _ sX sX sX sX)];rfl
  |gs=>
   show bT (gk m) 0 (ev.map V.jQ)=_;rw[G.row,Aa,show ev.take 2=ev from rfl];refine gX λi l p=>?_
   show[m.cU (.ops i) l.length,_,_,_,_,_,_,_,_,_,_,_,_,_,_]++_++[m.cU (.aH i) 0,m.cU (.aq i) 0,m.cU (.bA i) 0,m.cU (.OK i) 0,_]=_;rw[d (.aH i) (hf _ sX sX sX sX),d (.aq i) (hf _ sX sX sX sX),d (.bA i) (hf _ sX sX sX sX),d (.OK i) (hf _ sX sX sX sX),qC,e,T,G.ops i l (Q i l p) p];rfl
  |ops g=>
   simp only[aj,zd]
   cases p:ev[g]? with
   |none=>
    have:2<=g:=ak8.1 p;grind [Ny.no]
   |some l=>
    rw[G.ops g l (Q g l p) p];simp only[km,av1];refine gX λq o ho=>?_
    show[_,_,_,_,m.cU (.cases g q) _,_]=[_,_,_,_,_,_];grind [qC,Ny.cs]
  |cases g j=>
   simp only[aj,zd]
   cases p:ev[g]? with
   |none=>
    have:2<=g:=ak8.1 p;rw[(G.no g this).2 j];rfl
   |some l=>
    rw[G.cs g j (Q g l p)];simp only[km,av1]
    cases ho:l[j]? with
    |none=>
     rw[G.csn g l j (Q g l p) p ho];exact cc5
    |some o=>
     rw[G.cse g l j o (Q g l p) p ho];exact cc5
  |dB=>
   rw[hf _ sX sX sX sX];show[m.cU .ax 2]=_;rw[s .ax cp 2 2 _ (hf _ sX sX sX sX)];rfl
  |ax=>
   exact bZ8
  |dY=>
   rw[hf _ sX sX sX sX];show[m.cU .dQ 1]=_;rw[s .dQ R 1 1 _ (hf _ sX sX sX sX)];rfl
  |ef=>
   rw[hf _ sX sX sX sX];show[m.cU .aS 2,m.cU .bM 16]=_;rw[s .aS J 2 2 _ (hf _ sX sX sX sX),s .bM L 16 16 _ (hf _ sX sX sX sX)];rfl
  |Eg=>
   rw[hf _ sX sX sX sX];show[I 2,I 1,m.cU .aC 2,m.cU .aK 0,I 0,m.cU .bV 2]=_;rw[s .aC M 2 2 _ (hf _ sX sX sX sX),d .aK (hf _ sX sX sX sX),s .bV N 2 2 _ (hf _ sX sX sX sX)];rfl
  |aC=>
   rw[hf _ sX sX sX sX];show[m.cU (.cache 0) 0,m.cU (.cache 1) 0]=_;rw[d (.cache 0) (hf _ sX sX sX sX),d (.cache 1) (hf _ sX sX sX sX)];rfl
  |cache g=>
   rw[hf _ sX sX sX sX];show(match([[],[]]:List ce)[g]? with|some c=>c.map I|none=>[])=[];grind
  |gN=>
   rw[hf _ sX sX sX sX];show[m.cU .list 0,I 0]=_;rw[s .list S 0 0 _ (hf _ sX sX sX sX)];rfl
  |au=>
   exact bZ8
  |aO=>
   exact bZ8
  |dQ=>
   exact bZ8
  |aS=>
   exact bZ8
  |bM=>
   exact bZ8
  |ah=>
   exact bZ8
  |aK=>
   exact bZ8
  |bV=>
   exact bZ8
  |list=>
   exact bZ8
  |UB=>
   exact bZ8
  |done=>
   exact bZ8
  |eU i=>
   exact bZ8
  |pl0 i=>
   exact bZ8
  |aH g=>
   exact cb7
  |aq g=>
   exact cb7
  |bA g=>
   exact cb7
  |OK g=>
   exact cb7
 refine⟨{aQ:=z,gs:=U,dB:=X,ax:=cp,dY:=w,ef:=D,aS:=J,bM:=L,ah:=x,Eg:=E,aC:=M,bV:=N,gN:=y},m,ii,λr r' b h h'=>?_,λr b h=>?_,λr h=>?_,?_⟩
 .rw[e]at h h';exact cN.inj G.own r r' b h h'
 .rw[Z,T];rw[e]at h;exact cN.lies G.own r b h
 .rw[Z];rw[e]at h;exact cN.none_ G.own r h
 have k:∀(r:bH) (b c:Nat) (t:bi),Ef z X cp w R x H y S D J L E M N r=some (some b,c,t)->r≠ .aQ->r≠ .gs->(∀i,r≠ .ops i)->(∀i q,r≠ .cases i q)->m.aV r=some b:=λr b c t h h1 h2 h3 h4=>by rw[e,hf r h1 h2 h3 h4,h];rfl
 exact⟨by rw[e,G.aQ];rfl,by rw[e];exact yp,k _ _ _ _ ii sX sX sX sX,k _ _ _ _ ii sX sX sX sX,k _ _ _ _ ii sX sX sX sX,k _ _ _ _ ii sX sX sX sX,k _ _ _ _ ii sX sX sX sX,k _ _ _ _ ii sX sX sX sX,k _ _ _ _ ii sX sX sX sX,k _ _ _ _ ii sX sX sX sX,k _ _ _ _ ii sX sX sX sX,k _ _ _ _ ii sX sX sX sX,k _ _ _ _ ii sX sX sX sX⟩
def gA(l:go)(a:am)(b:Nat)(c:am)(d1:Nat)(d:am)(d2:Nat)(e:am)(d3:Nat)(f:am)(d4:Nat):dl:=
 #[(a,l.length,b),I 0,I 0,I 0,B false,I 0,B false,I (-1),I (-1),I (-1),I 0,I 0,I 0,I (-1),I (-1),I 0,I (-1),I 0,B false,I 0,(c,0,d1),(d,0,d2),(e,0,d3),(f,0,d4),I 0]
structure Cs(w:World)(ga ha sa ca:am):Prop where
 g:∃gb rB:Nat,ga=(gb,rB)/\∀(j:Nat) l,ev[j]?=some l->∃oa oc b1 d1 b2 d2 b3 d3 b4 d4,(∀(q:Nat) v,(gA l oa oc b1 d1 b2 d2 b3 d3 b4 d4)[q]?=some v->w.cell? (gb,rB+j*25+q)=v)/\kC w oa l
 h:∃hb Ls:Nat,ha=(hb,Ls)/\∀(q:Nat) v,(#[I 0,(),B false,I (-1),(),()]:dl)[q]?=some v->w.cell? (hb,Ls+q)=v
 s:gC w sa 2 (bT mg 0 (List.replicate 2 {}))
 c:∃cb off a0 c0 a1 c1,ca=(cb,off)/\cb<w.heap.size/\w.cell? (cb,off)=some (.slice a0 0 c0)/\w.cell? (cb,off+1)=some (.slice a1 0 c1)
theorem Cs.below{w d:World}{e f i k:am}(H:Cs w e f i k)(a:Below w w d):Cs d e f i k:=by
 obtain⟨m,n,o,p⟩:=H.g;obtain⟨r,t,u,x⟩:=H.h;obtain⟨y,off,z,A,B,c1,C,D,E,F⟩:=H.c;refine⟨⟨m,n,o,λj l G=>?_⟩,⟨r,t,u,λq v b=>cw a cG _ _ (x q v b)⟩,H.s.below a cG,⟨y,off,z,A,B,c1,C,uB D a.size,cw a cG _ _ E,cw a cG _ _ F⟩⟩;obtain⟨I,J,K,d1,L,d2,M,d3,N,d4,O,P⟩:=p j l G;exact⟨I,J,K,d1,L,d2,M,d3,N,d4,λq v b=>cw a cG _ _ (O q v b),P.below a cG⟩
def ofF(i a b c d e f g h:Nat):bH->Option oJ
 | .aQ=>some (some i,0,[I 2,I 1,I 0,(),a,(),(),c,.pointer none,(e,2,f),.pointer none,g,(),()])
 | .dB=>some (some a,0,[(b,2,2)])
 | .ax=>some (some b,2,bT ry 0 (List.replicate 2 (0,false)))
 | .dY=>some (some c,0,[(d,1,1)])
 | .dQ=>some (some d,1,[I (-1)])
 | .ah=>some (some e,f,bT mg 0 (List.replicate 2 {}))
 | .gN=>some (some g,0,[(h,0,0),I 0])
 | .list=>some (some h,0,[])
 |_=>none
theorem GU(W:World):gt 79 #[I 2,I 16] W λe a=>∃b g q:Nat,e=Value.tuple #[b,I 0]/\eh W W a [(.ef,some b,0,[(g,2,2),(q,16,16)]),(.aS,some g,2,bT oD 0 (List.replicate 2 {})),(.bM,some q,16,bT rG 0 (List.replicate 16 {}))]:=by
 have c:eh W W W []:=⟨fp,rx _,sX,λe h=>cj5,λe h=>cj5⟩;exact BN 2 oX c
section
variable(ga ha sa ca ma da xa:am)(gc hc sc cc mc dc xc:Nat)(w:World)(H:Cs w ga ha sa ca)
include ga ha sa ca ma da xa gc hc sc cc mc dc xc w H
theorem Un:gt 74 #[.agg #[I 2,I 1,I 0,(ga,2,gc),(ha,1,hc),(sa,2,sc),(ca,2,cc),(ma,0,mc),I 0,(da,0,dc),I 0,(xa,0,xc)]] w λe z=>∃F m,e=F.aQ/\bz (w+1) F z m pV/\Below w w z:=by
 obtain⟨gb,rB,rfl,al⟩:=H.g;obtain⟨cb,uq,rfl,Yq⟩:=H.h;have oR:Hid (∀(j:Nat) l,ev[j]?=some l->∃oa oc b1 d1 b2 d2 b3 d3 b4 d4,(∀q v,(gA l oa oc b1 d1 b2 d2 b3 d3 b4 d4)[q]?=some v->w.cell? ⟨gb,rB+j*25+q,none⟩=some v)/\kC w oa l):=al;have aK:Hid (∀(q:Nat) v,(#[I 0,(),B false,I (-1),(),()]:dl)[q]?=some v->w.cell? ⟨cb,uq+q,none⟩=some v):=Yq;clear al Yq;obtain⟨i0,hi,fV,jC,gG⟩:=AC xU;obtain⟨i3,gi,RO,aZ,RQ⟩:=AC uS;obtain⟨i1,ki,JV,JW,JX⟩:=AC xO;obtain⟨i2,li,b0,b5,b6⟩:=AC Pv;obtain⟨d,tY⟩:=dC (w.alloc (.cells #[I 2,I 1,I 0,.slice (some ⟨gb,rB,none⟩) 2 gc,.slice (some ⟨cb,uq,none⟩) 1 hc,.slice sa 2 sc,.slice ca 2 cc,.slice ma 0 mc,I 0,.slice da 0 dc,I 0,.slice xa 0 xc] 41));have JL:Below w w d:=by rw[tY];exact(fp).alloc cG _
 obtain⟨ab,a2⟩:∃r,r=w.heap.size:=⟨_,ii⟩;have ZR:d.heap[ab]?=some (.cells #[I 2,I 1,I 0,.slice (some ⟨gb,rB,none⟩) 2 gc,.slice (some ⟨cb,uq,none⟩) 1 hc,.slice sa 2 sc,.slice ca 2 cc,.slice ma 0 mc,I 0,.slice da 0 dc,I 0,.slice xa 0 xc] 41 (0,0)):=by rw[tY,a2];exact dP
 have FI:d=ab+1:=by rw[tY,a2];simp
 have Ao:Hid (∀W,Below d.heap.size d W->W.cell? ⟨ab,0,none⟩=some (I 2)/\W.cell? ⟨ab,1,none⟩=some (I 1)/\W.cell? ⟨ab,2,none⟩=some (I 0)/\W.cell? ⟨ab,3,none⟩=some (.slice (some ⟨gb,rB,none⟩) 2 gc)/\W.cell? ⟨ab,4,none⟩=some (.slice (some ⟨cb,uq,none⟩) 1 hc)/\W.cell? ⟨ab,5,none⟩=some (.slice sa 2 sc)/\W.cell? ⟨ab,9,none⟩=some (.slice da 0 dc)/\W.cell? ⟨ab,11,none⟩=some (.slice xa 0 xc)):=λW hb=>by
  exact ca9
 have a6:Hid (∀W,Below d.heap.size d W->W.cell? ⟨ab,6,none⟩=some (.slice ca 2 cc)/\W.cell? ⟨ab,7,none⟩=some (.slice ma 0 mc)/\W.cell? ⟨ab,8,none⟩=some (I 0)/\W.cell? ⟨ab,10,none⟩=some (I 0)):=λW hb=>by
  exact ca9
 have HO:=ag (H.below JL);have HW:Hid (ab=w.heap.size/\d=ab+1/\Below w w d):=⟨a2,FI,JL⟩;have HB:=ag (λ(D:World) (L:List (bH×oJ)) (H:eh d.heap.size d D L)=>show gt 80 #[I 2] D (λe z=>∃b g,e=.returned (.pointer (some ⟨b,0,none⟩))/\eh d.heap.size d z ((.dB,some b,0,[.slice (some ⟨g,0,none⟩) 2 2])::(.ax,some g,2,bT ry 0 (List.replicate 2 (0,false)))::L))from BM 2 oX oX H);have HL:=ag (λ(D:World) (L:List (bH×oJ)) (H:eh d d D L)=>Jj H);have RJ:=ag (λ(D:World) (L:List (bH×oJ)) (H:eh d d D L)=>E0 [] 0 rfl da dc H ⟨dX,λh=>cj5⟩ oX)
 have LD:=ag (λ(aN:Array Oper) (o:Oper) (ac:Act) (K:Act->World->Prop) (Q:Exit->Act->World->Prop) (E:Prop) (D:World) (L:List (bH×oJ)) (H:eh d d D L)=>uT (P:=prog) (ops:=aN) (o:=o) (a:=ac) (w:=D) (K:=K) (Q:=Q) (E:=E) (s:=.const ()) (x:=.tmp 21) (t:=37) (ht:=underlying37) (hi:=hi) (hz:=fV) (hsize:=jC) (hby:=gG) (hzs:=rfl) (hsz:=dX) (hbb:=dX)
  (ao:=sa) (n:=2) (c:=sc) (cs:=bT mg 0 (List.replicate 2 {})) (hl:=rfl) (hc:=HO.out.s.below H.below cG) (h1:=dX) (hn:=oX) (H:=H) (r:=.ah) (hr:=ct0))
 have X0:eh d d d []:=⟨fp,rx _,sX,λe h=>cj5,λe h=>cj5⟩;have X1:=ag X0;have X:=ag X0.drew;have hS:=bY7;clear H JL ZR FI X0;go_enter func74,ntmps74;go_upto_region 1 with fail
 rw[<-tY,<-a2];clear tY a2;go_cut [3]from 8 to 33 (λx wx=>∃u M Z S gL T U N gD,x=.pointer (some ⟨u,0,none⟩)/\Hid (eF d.heap.size d wx (ofF u M Z S gL T U N gD)))
 case first=>
  go_region_held3 (λW=>W.cell? ⟨ab,0,none⟩=some (I 2)/\W.cell? ⟨ab,1,none⟩=some (I 1)/\W.cell? ⟨ab,2,none⟩=some (I 0)/\W.cell? ⟨ab,3,none⟩=some (.slice (some ⟨gb,rB,none⟩) 2 gc)/\W.cell? ⟨ab,4,none⟩=some (.slice (some ⟨cb,uq,none⟩) 1 hc)/\W.cell? ⟨ab,5,none⟩=some (.slice sa 2 sc)/\W.cell? ⟨ab,9,none⟩=some (.slice da 0 dc)/\W.cell? ⟨ab,11,none⟩=some (.slice xa 0 xc)) (first|with_reducible exact hS|go_keep)
   (first
    |((first|(have y:=ag (X.out);with_reducible refine LD.out _ _ _ _ _ _ _ _ y.out ii ii ck2 ck2 ?_)|(have y:=ag (X.out.drew);with_reducible refine LD.out _ _ _ _ _ _ _ _ y.out ii ii ck2 ck2 ?_));intro hb U wC O x Et;have X:=ag x;have hS:=bY7;clear x O)
    |(refine zJ ii (.const ()) (.tmp 27) 25 rfl underlying25 ki ii da dc ck2 ?_)
    |(refine zJ ii (.const (.slice none 0 0)) (.tmp 30) 39 rfl underlying39 li ii xa xc ck2 ?_)
    |(go_at_call 80;(first|(have y:=ag (X.out);with_reducible refine(HB.out _ _ y.out).mono ?_)|(have y:=ag (X.out.drew);with_reducible refine(HB.out _ _ y.out).mono ?_));rintro e wB ⟨M,Z,rfl,x⟩;have X:=ag x;have hS:=bY7;clear x)
    |(go_at_call 81;(first|(have y:=ag (X.out);with_reducible refine(HL.out _ _ y.out).mono ?_)|(have y:=ag (X.out.drew);with_reducible refine(HL.out _ _ y.out).mono ?_));rintro e wL ⟨S,gL,rfl,x⟩;have X:=ag x;have hS:=bY7;clear x)
    |(go_at_call 82;(first|(have y:=ag (X.out);with_reducible refine(RJ.out _ _ y.out).mono ?_)|(have y:=ag (X.out.drew);with_reducible refine(RJ.out _ _ y.out).mono ?_));rintro e J ⟨N,gD,rfl,x⟩;have X:=ag x;have hS:=bY7;clear x)
    | fail "no arm")
  obtain⟨T,rfl⟩:∃b,hb=some b:=by
   cases hb with
   |none=>have:=(Et ii).1;omega
   |some b=>exact⟨b,ii⟩
  go_wp2_with fail
  go_meet;refine⟨_,M,Z,S,gL,T,U,N,gD,ii,?_⟩;have Y:=X.out.Og ((ae5 J.heap.size J).alloc cG (.cells #[I 2,I 1,I 0,.slice none 0 0,.pointer (some ⟨M,0,none⟩),.slice none 0 0,.slice none 0 0,.pointer (some ⟨S,0,none⟩),.pointer none,.slice (some ⟨T,0,none⟩) 2 U,.pointer none,.pointer (some ⟨N,0,none⟩),.slice none 0 0,.slice none 0 0] 94)) .aQ J.heap.size 0 [I 2,I 1,I 0,.slice none 0 0,.pointer (some ⟨M,0,none⟩),.slice none 0 0,.slice none 0 0,.pointer (some ⟨S,0,none⟩),.pointer none,.slice (some ⟨T,0,none⟩) 2 U,.pointer none,.pointer (some ⟨N,0,none⟩),.slice none 0 0,.slice none 0 0] cG (fF (dP) ii (λp h=>cq7));exact ag (Y.own (f:=ofF J.heap.size M Z S gL T U N gD) (λk=>by cases k<;>first|exact .inl rfl|exact .inr rfl))
 obtain⟨u,M,Z,S,gL,T,U,N,gD,rfl,HF⟩:=hcut;clear X X1 hS HB HL RJ LD;have HQ:=ag GU
 have HP:Hid (∀W,Below d.heap.size d W->gt 131 #[I 2,I 1,.slice ca 2 cc,.slice ma 0 mc,I 0] W λe z=>∃b g q,e=.returned (.tuple #[.pointer (some ⟨b,0,none⟩),I 0])/\
   eh W.heap.size W z [(.Eg,some b,0,[I 2,I 1,.slice (some ⟨g,0,none⟩) 2 2,.slice none 0 0,I 0,.slice (some ⟨q,0,none⟩) 2 2]),(.aC,some g,2,[.slice none 0 0,.slice none 0 0]),(.bV,some q,2,[B false,B false])]):=λW hb=>by
  obtain⟨cb,off,a0,c0,a1,c1,e3,dD,h3,h4⟩:=(HO.out.below hb).c;exact Gf ca ma a0 a1 cc mc c0 c1 W ⟨cb,off,e3,dD,h3,h4⟩
 obtain⟨_,_,_,_,_,s5,_,_⟩:=Ao.out _ HF.out.uw.1;go_upto_region 3 with(go_at_call 79;refine(HQ _).mono ?_;rintro e w3 ⟨bQ,gQ,qQ,rfl,a3⟩;have a7:=ag (HF.out.aa6 a3);have c8:=a7.out.cell (r:=.aQ) (b:=u) (cp:=0) (j:=8) co0 ii;have f8:=a7.out.frozen (r:=.aQ) (b:=u) (cp:=0) co0 8;clear a3)
 have ad:=a7.out.set (r:=.aQ) (b:=u) (cp:=0) (j:=8) (v:=.pointer (some ⟨bQ,0,none⟩)) co0;obtain⟨w4,xX⟩:=dC (w3.setCell ⟨u,8,none⟩ bQ);rw[<-xX]at ad ⊢;have a4:=ag ad;clear ad xX c8 f8 a7 HF s5;obtain⟨s0,s1,_⟩:=Ao.out _ a4.out.uw.1;obtain⟨s6,s7,s8,_⟩:=a6.out _ a4.out.uw.1;go_upto_region 4 with(go_at_call 131;refine(HP _ a4.out.uw.1).mono ?_;rintro e w5 ⟨bP,gP,qP,rfl,a5⟩;have a8:=ag (a4.out.aa6 a5);have Fq:=a8.out.cell (r:=.aQ) (b:=u) (cp:=0) (j:=10) co0 ii;have f10:=a8.out.frozen (r:=.aQ) (b:=u) (cp:=0) co0 10;clear a5)
 have ae:=a8.out.set (r:=.aQ) (b:=u) (cp:=0) (j:=10) (v:=.pointer (some ⟨bP,0,none⟩)) co0;obtain⟨w6,Q6⟩:=dC (w5.setCell ⟨u,10,none⟩ (.pointer (some ⟨bP,0,none⟩)));rw[<-Q6]at ae ⊢;have a9:Hid (eF d d w6 (Ef u M Z S gL T U N gD bQ gQ qQ bP gP qP)):=ag (ae.congr (λk=>by cases k<;>rfl));clear ae Q6 Fq f10 a8 a4 s0 s1 s6 s7 s8 HQ HP;have aq:Hid (∀W:World,Below w6 w6 W->gt 132 #[N,I 0] W λe z=>e=Value.tuple #[]/\eF d d z (Ef u M Z S gL T U N gD bQ gQ qQ bP gP qP)):=λW hb=>by have F:=a9.out.eC hb;refine(JG N _ 0 W (F.cell (r:=.gN) (cp:=0) (j:=0) co0 ii) (F.cell (r:=.gN) (cp:=0) (j:=1) co0 ii) (F.frozen (r:=.gN) (cp:=0) co0 1)).mono ?_;rintro e z ⟨he,n,rfl⟩;refine⟨he,?_⟩;have G:eF d d (W.drewN n) (Ef u M Z S gL T U N gD bQ gQ qQ bP gP qP):=F.eC ⟨ii,ii,ii,rx _,λb hb=>rfl⟩;exact G.same (r:=.gN) (cp:=0) (j:=1) co0 ii
 have ZI:=a9.out.cell (r:=.aQ) (b:=u) (cp:=0) (j:=11) co0 ii;obtain⟨_,_,_,V1⟩:=a6.out _ a9.out.uw.1
 go_region_held3 (λW=>W.cell? ⟨u,11,none⟩=some N/\W.cell? (ab,10)=I 0) (first|exact⟨ZI,V1⟩|go_keep)
  (first
   |(go_at_call 132;refine(aq _ ?_).mono ?_;exact(fp).drew;rintro e w7 ⟨rfl,hf⟩;have US:=ag hf;have ZI:=hf.cell (r:=.aQ) (b:=u) (cp:=0) (j:=11) co0 ii;obtain⟨_,_,_,V1⟩:=a6.out _ hf.uw.1;clear hf)
   | fail "no arm")
 clear aq a9 a6;obtain⟨_,_,_,s3,s4,_,_,_⟩:=Ao.out _ US.out.uw.1;go_wp2_with fail
 have GV:Below w w d:=HW.out.2.2;have ar:Hid (∀(j:Nat) l,ev[j]?=some l->∃oa oc b1 d1 b2 d2 b3 d3 b4 d4,∀W,Below d d W->(∀q v,(gA l oa oc b1 d1 b2 d2 b3 d3 b4 d4)[q]?=some v->W.cell? ⟨gb,rB+j*25+q,none⟩=some v)/\kC W oa l):=λj l hl=>by obtain⟨oa,oc,b1,d1,b2,d2,b3,d3,b4,d4,k1,k2⟩:=oR.out j l hl;refine⟨oa,oc,b1,d1,b2,d2,b3,d3,b4,d4,λW hb=>?_⟩;have hB:=GV.trans (hb.mono (by have:=HW.out.1;have:=HW.out.2.1;omega));exact⟨λq v hv=>cw hB cG _ _ (k1 q v hv),k2.below hB cG⟩
 have h0:Hid (∃f B K C,Ny d d w7 (Ef u M Z S gL T U N gD bQ gQ qQ bP gP qP) (λv=>[I 2,I 1,I 0,v,M,(),(),S,bQ,.slice (some ⟨T,0,none⟩) 2 U,bP,N,(),()]) u ev 0 () f B K C):=
  ⟨_,(λ_ _=>none),(λ_ _=>0),(λ_ _=>[]),US,ii,ii,ii,λi l h=>oX,λi q h=>oX,λi l q o h=>oX,λi l q h=>oX,λi h=>⟨ii,λq=>rfl⟩,λk _ _ _ _=>rfl⟩
 clear US ZI V1 GV;go_loopw [73] (λi wr=>∃(j:Nat) (va:am) (vc:Nat),i=.int .i64 j/\j<=2/\Hid (∃f B K C,Ny d d wr (Ef u M Z S gL T U N gD bQ gQ qQ bP gP qP) (λv=>[I 2,I 1,I 0,v,M,(),(),S,bQ,.slice (some ⟨T,0,none⟩) 2 U,bP,N,(),()]) u ev j (.slice va j vc) f B K C)) (λi _=>2-(intOf i).toNat)
 case atStart=>exact⟨0,none,0,ii,oX,h0⟩
 clear h0;obtain⟨j,va,vc,rfl,hj,HG⟩:=hrel;by_cases dD:j<2
 .skip;obtain⟨l,hl⟩:∃l,ev[j]?=some l:=⟨_,fv dD⟩;obtain⟨f,fB,fK,fC,G⟩:=HG.out;obtain⟨oa,oc,b1,d1,b2,d2,b3,d3,b4,d4,jF⟩:=ar.out j l hl;obtain⟨A,hA⟩:=dC (gA l oa oc b1 d1 b2 d2 b3 d3 b4 d4);have KX:Hid (A.size=25):=by rw[hA];exact ag ii
  have ri:Hid (A.all (·.oneCell')=true):=by rw[hA];exact ag (by simp[gA,Value.oneCell'])
  have J:Hid (A[0]?=some (.slice oa l oc)/\A[20]?=some (.slice b1 0 d1)/\A[21]?=some (.slice b2 0 d2)/\A[22]?=some (.slice b3 0 d3)/\A[23]?=some (.slice b4 0 d4)/\A[3]?=I 0/\A[4]?=some (B false)/\∀v,qh A v () () () ()=(aW0 v).toArray):=by rw[hA];exact ag ⟨ii,ii,ii,ii,ii,ii,ii,λv=>rfl⟩
  rw[<-hA]at jF;have CZ:=ag jF;have ja:=G.own.uw;have au:Hid (∀q v,A[q]?=some v->wr.cell? ⟨gb,rB+j*25+q,none⟩=some v):=(CZ wr ja.1).1;have O:=ag G;have av:=ag hl;clear jF hA HG;go_upto_region 7 with fail
  repeat(fail_if_success (refine wpList_load_mid ii 100 (.tmp 76) ii gb (rB+j*25) ii A ?_ ?_ ?_ ?_));go_step
  refine wpList_load_mid ii 100 (.tmp 76) ii gb (rB+j*25) ii A au cQ.1 cq0 ?_;repeat(fail_if_success (refine df ii 100 (.tmp 5) (.tmp 77) ii wr ii A ii ii ?_ ?_ ?_ ?_));go_step
  refine df ii 100 (.tmp 5) (.tmp 77) ii wr ii A ii ii cq0 (by rw[KX.out];rfl) ri ?_;go_upto_region 8 with fail
  obtain⟨D,jk⟩:=dC (wr.alloc (.cells A 100));obtain⟨y,ny⟩:∃b,b=wr.heap.size:=⟨_,ii⟩;rw[<-jk,<-ny];have gq:Below wr wr D:=cs8
  have eE:D.heap[y]?=some (.cells A 100 (0,0)):=by rw[jk,ny];exact dP
  have xi:D=y+1:=by rw[jk,ny];simp
  have m3:D.cell? (y,3)=I 0:=by rw[cr eE];exact J.out.2.2.2.2.2.1
  have m4:D.cell? (y,4)=some (B false):=by rw[cr eE];exact J.out.2.2.2.2.2.2.1
  have af:=O.out.own.eC gq;have c4:=af.cell (j:=4) O.out.aQ ii;have aw:f .dB=some (some M,0,[.slice (some ⟨Z,0,none⟩) 2 2]):=O.out.yf .dB sX sX (λi=>sX) (λi q=>sX);have Xo:f .ax=some (some Z,2,bT ry 0 (List.replicate 2 (0,false))):=O.out.yf .ax sX sX (λi=>sX) (λi q=>sX);have aO:Z<y:=by rw[ny];exact(O.out.own.lt Xo).2
  have pI:Hid (∀W,Below D D W->gt 133 #[M,I j,I 0,.bool false] W λe z=>e=Value.bool true/\eF d d z f/\z.heap[y]?=some (.cells A 100 (0,0))/\y<z):=λW hb=>by
   have F:=af.eC hb;have q1:(bT ry 0 (List.replicate 2 ((0:Int),false)))[j*2]?=I 0:=(by rcases(show j=0\/j=1 by omega)with rfl|rfl<;>rfl);have q2:(bT ry 0 (List.replicate 2 ((0:Int),false)))[j*2+1]?=some (B false):=(by rcases(show j=0\/j=1 by omega)with rfl|rfl<;>rfl);refine(MZ M Z j 2 W (F.cell (j:=0) aw ii) dD (F.cell (j:=j*2) Xo q1) (F.cell (j:=j*2+1) Xo q2) (F.frozen Xo)).mono ?_;rintro e z ⟨he,rfl⟩;refine⟨he,(F.same Xo q1).same Xo q2,?_,?_⟩
   .rw[fQ ci8,fQ ci8,hb.block y oX];exact eE
   have:=hb.size;simp[World.setCell];omega
  have Zz:Hid (y=wr.heap.size):=ny;clear jk gq eE xi af aw Xo aO ja au ny
  go_region_held3 (λW=>W.cell? ⟨u,4,none⟩=some M/\W.cell? (y,3)=I 0/\W.cell? (y,4)=some (B false)) (first|exact⟨c4,m3,m4⟩|go_keep)
   (first
    |(go_at_call 133;refine(pI _ ?_).mono ?_;exact(fp).drew;rintro e w2 ⟨rfl,hf,hx,ay⟩;have c4:=hf.cell (j:=4) O.out.aQ ii;have m3:w2.cell? (y,3)=I 0:=(by rw[cr hx];exact J.out.2.2.2.2.2.1);have m4:w2.cell? (y,4)=some (B false):=(by rw[cr hx];exact J.out.2.2.2.2.2.2.1);have Rt:=ag (dO hf (dO hx ay));clear hf hx ay)
    | fail "no arm")
  have tP:Hid (gt 49 #[.agg A] w2 λe z=>∃la ln lc A2,e=Value.agg A2/\A2=(NC la ln lc)/\∃aV cap c,.slice la ln lc=nG (aV (some (.ops 0))) l (cap (some (.ops 0)))/\JD w2 z l aV cap c):=by refine(GK A KX ri l oa oc J.out.1 (uo l (lf av)) b1 b2 b3 b4 d1 d2 d3 d4 J.out.2.1 J.out.2.2.1 J.out.2.2.2.1 J.out.2.2.2.2.1 w2 (CZ w2 Rt.out.1.uw.1).2).mono ?_;rintro e z ⟨aV,cap,c,rfl,hR⟩;obtain⟨la,ln,lc,hm⟩:=Cq (aV (some (.ops 0))) l (cap (some (.ops 0)));rw[hm,J.out.2.2.2.2.2.2.2];exact⟨la,ln,lc,_,ii,ii,aV,cap,c,hm.symm,hR⟩
  clear pI c4 m3 m4 CZ;go_upto_region 9 with fail
  refine as8 ?_;refine wpList_load_mid ii 100 (.tmp 5) ii y 0 rfl A (λq v hq=>by rw[wl,cr Rt.out.2.1];exact hq) cQ.1 cq0 ?_
  go_upto_region 10 with(first
   |(go_at_call 49;refine tP.out.mono ?_;rintro e w3 ⟨la,ln,lc,A2,rfl,Lf,hR⟩;have nM:w3.heap[y]?=some (.cells A 100 (0,0)):=(by obtain⟨aV,cap,c,_,hR⟩:=hR;exact(hR.own.below.block y Rt.out.2.2).trans Rt.out.2.1);have SB:=ag (dO hR nM);have nx:=ag Lf;clear hR nM Lf)
   |(refine JS ii 100 (.tmp 5) (.tmp 89) ii y 0 A2 ii ii (by rw[nx.out];exact cQ.2) (λq hq=>by rw[cr SB.out.2,wl,xL (by rw[KX.out];rw[nx.out]at hq;exact hq)];rfl) (λq hq=>iM _ _ _ SB.out.2) (by rw[nx.out];simp[Value.oneCell']) ?_)
   |fail)
  obtain⟨w4,xX⟩:=dC (w3.setCells y 0 A2.toList);rw[<-xX];obtain⟨aV,cap,c,hm,hR⟩:=SB.out.1;have vB:w4.heap[y]?=some (.cells A2 100 (0,0)):=by rw[xX];exact dI SB.out.2 (by rw[KX.out,nx.out];rfl)
  have ai:d<=y:=by rw[Zz.out];exact O.out.own.uw.2
  have hn:∀k b q ys,iK j f aV cap c k=some (some b,q,ys)->b≠y:=by rw[Zz.out];exact O.out.aa7 hR.own (by rw[<-Zz.out];exact Rt.out.2.2)
  have ak:eF d d w3 (iK j f aV cap c):=Rt.out.1.clone hR.own;have aB:eF d d w4 (iK j f aV cap c):=by rw[xX];exact eF.KD ak hn ai _ _ _ ak
  have y3:w4.cell? (y,3)=I 0:=by rw[cr vB,nx.out];rfl
  have y4:w4.cell? (y,4)=some (B false):=by rw[cr vB,nx.out];rfl
  have aR:=iM w4 y 3 vB;have aS:=iM w4 y 4 vB;have H4:=ag (dO vB (dO ai (dO hn aB)));have Bg:=ag (dO hm hR);clear xX vB ai hn ak aB SB tP hm hR;go_upto_region 11 with fail
  obtain⟨w5,Ha⟩:=dC ((w4.setCell (y,3) (I 0)).setCell (y,4) (B false));rw[<-Ha];have RL:w5.heap[y]?=some (.cells (NC la ln lc) 100 (0,0)):=by have h:=ms _ y 4 _ 100 (B false) (ms _ y 3 _ 100 (I 0) H4.out.1);rw[Ha,h,nx.out];rfl
  have Xp:eF d d w5 (iK j f aV cap c):=by rw[Ha];exact(H4.out.2.2.2.others H4.out.2.2.1 H4.out.2.1 3 _).others H4.out.2.2.1 H4.out.2.1 4 _
  have c3:=Xp.cell (r:=.aQ) (b:=u) (cp:=0) (j:=3) O.out.aQ ii;have Yg:=Xp.frozen (r:=.aQ) (b:=u) (cp:=0) O.out.aQ 3;have aU:=(Xp.lt (r:=.aQ) (b:=u) (cp:=0) O.out.aQ).2;have Yh:=ag (O.out.WL (by show j<=2;omega) Xp);have aG:d.heap.size<=w5.heap.size:=Xp.uw.2;have H5:=ag Xp;clear Ha Xp y3 y4 aR aS H4
  have NA:Hid ((Value.slice va j vc).ownBlock≠some u):=by
   refine ag ?_;rw[O.out.cU,mJ];intro e;have:=cN.inj O.out.own .gs .aQ u e (by simp only[O.out.aQ];rfl)
   cases this
  refine GL (aJ:=_) kX RL c3 Yg aU Yh aG hj NA _ _ _ _ _ _ _ _ _ _ _ _ _ _ _ _ _ _ _ _ _ _ _ _ _ _ _ _ _ _ _ _ _ _ _ _ _ _ _ _ _ _ _ _ _ _ _ _ _ _ _ _ _ _ _ _ _ _ _ _ _ _ _ _ _ _ _ _ _ _ _ _ _ _ _ _ _ _ _ _ _ _ _ _ _ _ _ _ _ _ _ _ _ _ _ _ _ _ _ _ _ _ _ _ _ _ _ _ _ _ _ _ _ _ _ _ (λ_ _ _ _ _ h=>h) ?_;intro b7 b8 b9 ba bb bc bd bf bg PW w9 gg hU jl kz bE;have HN:Hid (∃f B K C,Ny d d (w9.setCell ⟨u,3,none⟩ (.slice gg (j+1) hU)) (Ef u M Z S gL T U N gD bQ gQ qQ bP gP qP) (λv=>[I 2,I 1,I 0,v,M,(),(),S,bQ,.slice (some ⟨T,0,none⟩) 2 U,bP,N,(),()]) u ev (j+1) (.slice gg (j+1) hU) f B K C):=by refine Ny.push O av (H5.out.alloc (.cells (NC la ln lc) 100)) Bg.out.2.row Bg.out.2.cs (λq hq=>Bg.out.2.own.none_ _ (Bg.out.2.less q hq)) kz ?_ (by simpa using bE) (λ_ _=>rfl);rw[<-Bg.out.1];exact jl
  clear jl kz bE Yh H5 c3 Yg O Bg aG RL NA;go_wp2;go_roundw
  case rel=>exact⟨j+1,_,_,cj8,oX,HN⟩
  simp[intOf];omega
 obtain rfl:j=2:=oX
 obtain⟨f,fB,fK,fC,G⟩:=HG.out;have y:=G.own.uw;obtain⟨F,m,aH,R⟩:=Xn G;have GV:Below w w wr:=HW.out.2.2.trans (y.1.mono (by have:=HW.out.1;have:=HW.out.2.1;omega));have h0:Hid (∃m,bz d F wr m wO/\Below w w wr):=⟨m,R,GV⟩;obtain⟨_,_,_,_,s4,_,_,_⟩:=Ao.out _ y.1;have TD:=ag aH;clear G R y GV HG ar aH;go_wp2_with fail
 go_loopw [106] (λi wr=>∃k:Nat,i=.int .i64 k/\k<=1/\Hid (∃m,bz d F wr m (if k=0 then wO else pV)/\Below w w wr)) (λi _=>1-(intOf i).toNat)
 case atStart=>exact⟨0,ii,oX,h0⟩
 clear h0 s4;obtain⟨k,rfl,hk,HR⟩:=hrel;by_cases dD:k<1
 .obtain rfl:k=0:=by omega
  obtain⟨m1,R1,gq⟩:=HR.out;have R1:bz d F wr m1 wO:=R1;have aI:Hid (∀q v,(#[I 0,(),B false,I (-1),(),()]:dl)[q]?=some v->wr.cell? ⟨cb,uq+q,none⟩=some v):=λq v hv=>cw gq cG _ _ (aK q v hv)
  obtain⟨D,jk⟩:=dC (wr.alloc (.cells #[I 0,(),B false,I (-1),(),()] 59));obtain⟨cx,Yq⟩:∃b,b=wr.heap.size:=⟨_,ii⟩;have J:Below wr wr D:=cs8
  have eE:D.heap[cx]?=some (.cells #[I 0,(),B false,I (-1),(),()] 59 (0,0)):=by rw[jk,Yq];exact dP
  have R2:=R1.below J;have aY:Hid (gt 134 #[u,I 1,.agg #[I 0,(),B false,I (-1),(),()]] D λe z=>e=Value.tuple #[]/\∃m,bz d F z m pV/\Below w w z):=by rw[<-TD.out];refine(D7 R2 ii ii dX).mono ?_;rintro e z ⟨he,m3,A⟩;refine⟨he,m3,A.bj,?_⟩;have O:=gq.trans (J.mono gq.size);have bh:w.heap.size<=d.heap.size:=HW.out.2.2.size;refine⟨A.mv.os.trans O.os,A.mv.tape.trans O.tape,A.mv.output.trans O.output,jm O.size A.mv.size,λb hb=>?_⟩;rw[A.mv.keep b (by have:=O.size;omega) (λr e=>by have:=(R2.lies r b e).1;omega)];exact O.block b hb
  have jc:=ag eE;clear R1 R2 gq J eE HR;go_upto_region 15 with fail
  repeat(fail_if_success (refine wpList_load_mid ii 59 (.tmp 109) ii cb uq ii #[I 0,(),B false,I (-1),(),()] ?_ ?_ ?_ ?_));go_step
  refine wpList_load_mid ii 59 (.tmp 109) ii cb uq ii #[I 0,(),B false,I (-1),(),()] aI aa9.1 aa9.2 ?_;repeat(fail_if_success (refine df ii 59 (.tmp 7) (.tmp 110) ii wr ii #[I 0,(),B false,I (-1),(),()] ii ii ?_ ?_ ?_ ?_));go_step
  refine df ii 59 (.tmp 7) (.tmp 110) ii wr ii #[I 0,(),B false,I (-1),(),()] ii ii aa9.2 ii cj0 ?_;go_upto_region 16 with fail
  rw[<-jk,<-Yq];clear jk Yq aI;repeat(fail_if_success (refine wpList_load_mid ii 59 (.tmp 7) ii cx 0 rfl #[I 0,(),B false,I (-1),(),()] ?_ ?_ ?_ ?_));go_step
  refine wpList_load_mid ii 59 (.tmp 7) ii cx 0 rfl #[I 0,(),B false,I (-1),(),()] (λq v hq=>by rw[wl,cr jc.out];exact hq) aa9.1 aa9.2 ?_;go_wp2_with (go_at_call 134;refine aY.out.mono ?_;rintro e w2 ⟨rfl,hR⟩;have Ou:=ag hR;clear hR);go_roundw
  case rel=>exact⟨_,_,_,_,_,_,_,_,_,_,_,_,_,⟨1,ii,oX,Ou⟩,ii⟩
  simp[intOf]
 obtain rfl:k=1:=oX
 go_wp2;go_ret;obtain⟨m,R,hb⟩:=HR.out;have hB:=HW.out;have J:d=w.heap.size+1:=by rw[hB.2.1,hB.1]
 exact⟨F,m,by rw[TD.out];rfl,by rw[<-J];exact R,hb⟩
theorem JQ:gt 41 #[.agg #[I 2,I 1,I 0,(ga,2,gc),(ha,1,hc),(sa,2,sc),(ca,2,cc),(ma,0,mc),I 0,(da,0,dc),I 0,(xa,0,xc)]] w λe f=>∃F m b,e=Value.pointer (some ⟨b,0,none⟩)/\bz (w+2) F f m pV/\Below w w f/\f.heap[b]?=some (.cells #[F.aQ] 78 (0,0))/\w<=b/\∀r,m.aV r≠b:=by
 obtain⟨c,jk⟩:=dC (w.alloc (.cells #[I 2,I 1,I 0,(ga,2,gc),(ha,1,hc),(sa,2,sc),(ca,2,cc),(ma,0,mc),I 0,(da,0,dc),I 0,(xa,0,xc)] 41));have a:Below w w c:=cs8
 have g:c=w.heap.size+1:=by rw[jk];simp
 have k:c.heap[w.heap.size]?=some (.cells #[I 2,I 1,I 0,(ga,2,gc),(ha,1,hc),(sa,2,sc),(ca,2,cc),(ma,0,mc),I 0,(da,0,dc),I 0,(xa,0,xc)] 41 (0,0)):=by rw[jk];exact dP
 have l:=ag (Un ga ha sa ca ma da xa gc hc sc cc mc dc xc c (H.below a));rw[g]at l;have i:=ag (dO k (dO a g));clear H a g k;go_enter func41,ntmps41;go_upto_region 1 with fail
 rw[<-jk];clear jk;refine as8 ?_;refine wpList_load_mid ii 41 (.tmp 1) ii w 0 rfl #[I 2,I 1,I 0,(ga,2,gc),(ha,1,hc),(sa,2,sc),(ca,2,cc),(ma,0,mc),I 0,(da,0,dc),I 0,(xa,0,xc)] (λq v o=>by rw[wl,cr i.out.1];exact o) nQ.1 nQ.2 ?_;go_wp2_with (go_at_call 74;refine l.out.mono ?_;rintro e n ⟨F,m,rfl,R,d⟩;have p:=ag (dO R d);clear R d);go_ret;obtain⟨R,d⟩:=p.out;have a:=i.out.2.1;have s:=i.out.2.2;have j:Below w w n:=a.trans (d.mono oX);refine⟨F,m,n.heap.size,ii,R.below ((fp).alloc cG _),j.alloc j.size _,dP,j.size,λr e=>?_⟩;have:=R.lt e;omega
end
namespace V
theorem aP4(f:Int->Int):∀(l:ce) (who:Int),f who<=f (qV f who l)/\∀g∈l,f g<=f (qV f who l)
 | [],who=>⟨ae1 _,λg h=>ck3⟩
 |a::l,who=>by obtain⟨b,c⟩:=aP4 f l (if f who<f a then a else who);grind [qV]
theorem aM2{p q:Int->Bool}{a:Int}:∀{l:ce},(∀x∈l,p x->q x)->a∈l->p a=false->q a->l.countP p+1<=l.countP q
 | [],_,h,_,_=>ck3
 |x::l,c,h,d,e=>by
  have f:l.countP p<=l.countP q:=List.countP_mono_left λy b=>c y (nO _ b)
  rw[List.countP_cons,List.countP_cons];rcases iL.1 h with rfl|h
  .grind
  have:=aM2 (λy b=>c y (nO _ b)) h d e;grind
theorem aM3{p:Int->Bool}{a:Int}:∀{l:ce},a∈l->p a=false->l.countP p+1<=l
 | [],h,_=>ck3
 |x::l,h,b=>by
  rw[List.countP_cons,sV];rcases iL.1 h with rfl|h
  .grind
  have:=aM3 h b;split<;>omega
def FQ(p:be)(a:ce)(K d b most:Nat)(j:Nat)(S:Wd)(f:Int->Int):Prop:=
 ∃t k:Nat,xK p a k S/\k<=b+j/\j<=most/\(∀g,0<=f g/\f g<=j)/\j+K*work S<=K*DY p+t/\
  (∀g∈cE S.ax,(t:Int)<=f g\/∃(i:Nat) (x:bI),g=i/\S.gs[i]?=x/\JM S x)/\t<=d+(cE S.ax).countP λg=>decide (f g<t)
section
variable{K d k0 most N:Nat}{p:be}{UB:ce}{f:Int->Int}
theorem aL0(h:Na t n):(n:Int)∈cE t.ax:=by
 have key:∀(b:List (Int×Bool)) (i cp:Nat) (c:Bool),b[cp]?=some (0,c)->((i+cp:Nat):Int)∈eY i b:=by
  intro b;induction b with
  |nil=>intro i cp c h;simp at h
  |cons a b ih=>
   intro i cp c h;obtain⟨e,u⟩:=a
   cases cp with
   |zero=>
    simp only[ak5,oZ,aS3]at h;unfold eY;rw[aF h.1];exact rn ..
   |succ cp=>
    grind [eY]
 obtain⟨c,h⟩:=h;have:=key t.ax 0 n c h;grind [cE]
theorem FQ.few(e:p=N)(u:K=N+d)(R:xK p UB X t)(l:cE t.ax≠[])(v:∀n∈cE t.ax,(b:Int)<=f n\/∃(i:Nat) (x:bI),n=i/\t.gs[i]?=x/\JM t x)(w:b<=d+(cE t.ax).countP λn=>decide (f n<b)):b<K/\∃n∈cE t.ax,(b:Int)<=f n:=by
 obtain⟨y,m⟩:=List.exists_mem_of_ne_nil _ l;obtain⟨i,rfl,a⟩:=sG m;obtain⟨z,I⟩:=R.1.inv
 have o:i<t.ax.length:=by
  rcases aj8 i t.ax with h|h
  .exact h
  unfold bU idx at a;grind
 obtain⟨q,A,r,B,C⟩:=aR9 I (SF a o);have c:=aL0 r;have s:(b:Int)<=f q:=cp2
 refine⟨?_,_,c,s⟩;have D:=aM3 (p:=λn=>decide (f n<b)) c ci8;have E:=xg t.ax 0;have F:=I.ax;have G:t.gs.length=N:=by rw[<-e,<-R.1.ops,ko]
 unfold cE at*;omega
theorem FQ.start(R:xK p UB k0 t):FQ p UB K d k0 most 0 t (λ_=>0):=
 ⟨0,k0,R,oX,wn _,λn=>⟨ae1 _,ae1 _⟩,by have:=R.2.2;have:=Nat.mul_le_mul_left K this;omega,λn _=> .inl (ae1 _),wn _⟩
theorem FQ.stop(b:p=N)(c:K=N+d)(l:most=K*(DY p+1))(Q:FQ p UB K d k0 most most t f):cE t.ax=[]:=by
 refine ww λe=>?_
 obtain⟨a,X,R,_,_,_,m,h,i⟩:=Q;have o:=(FQ.few b c R e h i).1;grind
theorem aP5(w:p=N)(E:K=N+d)(OH:k0+most<900000)(hd:UB.length<=300)(F:∀z∈UB,0<=z/\z<=65535):Re (FQ p UB K d k0 most) K N most:=by
 have G:=Vh p UB oX F;refine⟨λcp t f ⟨b,X,R,_⟩=>?_,λcp t f ⟨b,X,R,_⟩=>G.av X t R,λcp t f n Q h=>sG h,λcp t f n ⟨b,X,R,H,_⟩ y J=>G.aG X t n R oX J,λcp t f ⟨b,X,R,_⟩=>?_,λcp t f ⟨b,X,R,_,y,A,_⟩ n=>?_,?_⟩
 .obtain⟨c,I⟩:=R.1.inv;grind [Inv.ax,Inv.n8]
 .rw[<-w,<-R.1.ops,ko]
 .have:=A n;omega
 rintro cp t f ⟨b,X,R,H,y,A,h1,B,L⟩ M O n m
 have C:(n:Int)∈cE t.ax/\(¬((K:Int)<=f (qV f ((cE t.ax).getD 0 0) (cE t.ax))+N)\/(n:Int)=qV f ((cE t.ax).getD 0 0) (cE t.ax)):=by
  unfold qZ at m;split at m
  .refine⟨?_,.inr m.symm⟩;rw[<-m];rcases sw f (cE t.ax) ((cE t.ax).getD 0 0)with h|h
   all_goals grind
  grind [vt]
 obtain⟨i,e,T⟩:=sG C.1;obtain rfl:n=i:=oX
 obtain⟨S',o,D,r⟩:=R.aW6 oX oX T;obtain⟨U,W,Y,Z⟩:=FQ.few w E R O B L;have c:∀a,0<=iC (n:Int) (cE t.ax) f a/\iC (n:Int) (cE t.ax) f a<=((cp+1:Nat):Int):=λa=>by grind [iC]
 refine⟨S',o,?_⟩;rcases r with⟨rfl,x,hx,hB⟩|r
 .refine⟨b+1,X+1,D,oX,oX,c,by show cp+1+K*work t<=_;omega,λa s=>?_,?_⟩
  .by_cases e:a=(n:Int)
   .exact .inr ⟨n,x,e,hx,hB⟩
   rcases B a s with h|h
   .left;unfold iC;rw[aF ⟨s,e⟩];omega
   exact .inr h
  show b+1<=d+(cE t.ax).countP _;by_cases a0:b<d
  .omega
  have u:=(aP4 f (cE t.ax) ((cE t.ax).getD 0 0)).2 W Y;have v:(n:Int)=qV f ((cE t.ax).getD 0 0) (cE t.ax):=oX
  have:=aM2 (p:=λn=>decide (f n<b)) (q:=λa=>decide (iC (n:Int) (cE t.ax) f a<((b+1:Nat):Int))) (l:=cE t.ax) (a:=(n:Int)) (λa s h=>by simp only[lm]at h ⊢;unfold iC;split<;>omega) C.1 (by rw[<-v]at u;simp;omega) (by unfold iC;rw[aE (λh=>h.2 ii)];exact az4 oX);omega
 have s:=Nat.mul_le_mul_left K r;rw[Nat.mul_add,at8]at s;exact⟨0,X+1,D,oX,oX,c,oX,λa _=> .inl (c a).1,wn _⟩
end
def bx4(S:Wd)(m:Ex):Prop:=m∈S.done\/∃(g:Nat) (x:bI),S.gs[g]?=x/\m=qu x g 0
section
variable{ls:ap}{g k:Nat}{p:be}{UB:ce}{x:bI}
section
variable(R:xK p UB k t)(hq:cE t.ax=[])
include R hq
theorem xK.rest(hx:t.gs[g]?=x):x.lQ=0/\x.OK=[]/\(x.ae=0/\bU t.ax g=2\/(x.ae=14\/x.ae=19)/\bU t.ax g=1):=by
 obtain⟨ls,I⟩:=R.1.inv;have K:=R.2.1.2
 have l:∀(j:Nat) y,t.gs[j]?=some y->(∀a,t.ax[j]?≠some (0,a))/\(y.ae=0/\bU t.ax j=2\/(y.ae=14\/y.ae=19)/\bU t.ax j=1)/\y.OK=[]:=λj y c=>by
  have m:=um c;obtain⟨⟨s,a⟩,d⟩:∃q,t.ax[j]?=some q:=⟨_,fv (by rw[I.ax];exact m)⟩;have n:bU t.ax j=s:=by unfold bU idx;simp[d]
  have e:∀a,t.ax[j]?≠some (0,a):=λa h=>by have:=aL0 ⟨a,h⟩;grind
  obtain⟨w,z,A,B,C,D,E⟩:=I.st j y s a c d;have:s≠0:=by rintro rfl;exact e a d
  have L:=I.loc j y c;have b:y.ae=0/\s=2\/(y.ae=14\/y.ae=19)/\s=1:=oX
  refine⟨e,by rw[n];exact b,?_⟩;by_cases o:y.ae=0
  .exact(L.begin o).OK
  grind [Loc.uP]
 obtain⟨F,f,r⟩:=l g x hx;refine⟨ww λb=>?_,r,f⟩;have T:=K.t3 g x hx;have L:=bT4;rcases f with⟨h,_⟩|⟨h|h,_⟩
 .exact b (L.begin h).lQ
 .have u:aW x:=by
   grind [aW]
  rcases T.wt u b with⟨j,s,y,G,i,v,_⟩|⟨_,⟨j,y,i,v⟩|⟨a,i,_⟩⟩
  .grind [aT]
  all_goals grind
 exact b (T.zp (.inr h))
theorem xK.hre{m:Ex}(h:bx4 t m)(a:m.lQ≠0):m∈t.done/\m.re≠0:=by
 rcases h with h|⟨g,x,b,rfl⟩
 .exact⟨h,(R.2.1.2.dp m h).2⟩
 exact aX (R.rest hq b).1 a
theorem xK.pk(hx:t.gs[g]?=x)(hs:bU t.ax g=1){l:List Ex}(B:∀m∈l,bx4 t m):Pk p l (qu x g 0) (aP x):=by
 obtain⟨ls,I⟩:=R.1.inv;have K:=R.2.1.2;have J:=R.2.1.1;have L:=bT4;have T:=K.t3 g x hx;obtain⟨f,J0,C⟩:=R.rest hq hx;have C:x.ae=14\/x.ae=19:=oX
 have h0:=L.JY;have ks:=bU3;have a:∀m∈l,∀o,Ug p m=some o->m.lQ≠0->m∈t.done/\bf6 t {m with re:=0} o:=λm n o v q=>by have b:=(R.hre hq (B m n) q).1;exact⟨b,.inl ⟨m,b,ii,by rw[R.1.ops];exact v⟩⟩
 refine⟨?_,λe=>⟨T.tm.2.2.2.2 e,λm n q H=>?_⟩,λi c w m n o v q M D=>?_⟩
 .unfold Ug qu;simp only[oU];rw[<-R.1.ops,na,hx];simp only[km,eN];unfold aP idx;grind
 .have b:=(R.hre hq (B m n) q).1;have E:=T.own oX m b H;have u:=T.tm.2.2.2.2 e;show m.lQ<x.bJ;omega
 have D:m.lQ<x.call:=D;obtain⟨_,N⟩:=a m n o v q;have r:¬bf7 x i:=λh=>by have u:x.call<=m.lQ:=T.act oX i c w h {m with re:=0} o N M;omega
 have Dp:x.ae=14:=by
  rcases C with h|h
  .exact h
  exact aX (.inl h) r
 have e:x.bJ≠0:=T.ar (.inl oX);have F:(aP x).ai=9->i∈x.aH:=λh=>ww λO=>r (.inr ⟨h,O⟩)
 refine⟨e,λG z A Q U=>?_⟩;obtain⟨_,s⟩:=a G z A Q U;refine⟨λW=>?_,λd b X Y=>?_⟩
 .have E:pP t c.ch:=(K.tl _ A s).2.2 _ W;have Z:Inv {t with av:=t.av+1} ls:=I.same ii ii ii ii ii ii ii ii;have u:=bt9 Z J (x:=x) hx e (T.aw e f) (T.EJ e f) w F;have u:1<=t.ef.len (Uj (!c.cF) c.ch):=u;rcases J.dr _ E with h|⟨j,y,hy,b⟩
  .have h:t.ef.len (2*c.ch-2)<=0/\t.ef.len (2*c.ch-1)<=0:=h;grind [Uj]
  have:=(R.rest hq hy).2.2;have:=b.1;omega
 exact T.lone e f i c w F {G with re:=0} A d s b X Y
theorem xK.bv3:∀h∈t.aq,h= -1:=λh i=>by
 obtain⟨ls,I⟩:=R.1.inv;obtain⟨c,l⟩:=ae3.1 i;obtain⟨a,b,d⟩:=I.lock c h l;refine ww λm=>?_
 obtain⟨j,rfl⟩:=pz (show 0<=h by omega);have f:t.gs[j]?=t.gs[j]' oX:=fv oX;have n:=(R.rest hq f).2.2;have e:=(d j _ f).2 rfl;unfold aL at e;split at e
 .unfold bC at e;grind
 grind [cH]
end
end
def owe(S:Wd)(g:Nat)(x:bI):Nat:=if bU S.ax g=1/\x.ae=14 then(if(aP x).ai=9 then x.aH else 1)else 0
def br3(S:Wd):Nat->Nat
 |0=>0
 |j+1=>br3 S j+((S.gs[j]?).map (owe S j)).getD 0
def bd7(S:Wd)(s:Nat):Bool:=((S.ah[s]?).map (·.cK)).getD false
def bh3(S:Wd):Nat->Nat
 |0=>0
 |j+1=>bh3 S j+if bd7 S j then 1 else 0
def bh4(S:Wd)(g:Nat)(x:bI):bv:=if bU S.ax g=1/\x.ae=14 then(if(aP x).ai=9 then x.aH.map λi=>((x.bA[i.toNat]?).getD 0).toNat else[x.bY.toNat])else[]
def bg2(S:Wd):Nat->bv
 |0=>[]
 |j+1=>bg2 S j++((S.gs[j]?).map (bh4 S j)).getD []
theorem bd1{α:Type}[DecidableEq α]:∀{l m:List α},l.Nodup->(∀x∈l,x∈m)->l<=m.length
 | [],m,_,_=>wn _
 |x::l,m,b,h=>by
  obtain⟨c,d⟩:=ar8.1 b;have e:=h x rn;have:=bd1 (m:=m.erase x) d λy a=>(List.mem_erase_of_ne (by rintro rfl;exact c a)).2 (h y (nO _ a))
  grind
section
variable{ls:ap}{g:Nat}{p:be}{UB:ce}{x:bI}
theorem bl8(t:Wd):∀j,bh3 t j=((List.range j).filter (bd7 t)).length
 |0=>rfl
 |j+1=>by rw[bH2,List.filter_append,aU7,<-bl8 t j];grind [bh3]
theorem br4(t:Wd)(g:Nat)(x:bI):(bh4 t g x).length=owe t g x:=by
 grind [bh4,owe]
theorem bh5(t:Wd):∀j,(bg2 t j).length=br3 t j
 |0=>rfl
 |j+1=>by
  unfold bg2 br3;rw[aU7,bh5 t j]
  cases t.gs[j]? with
  |none=>rfl
  |some x=>simp[br4]
theorem xK.owned(R:xK p UB n t)(D:cE t.ax=[])(hx:t.gs[g]?=x):(bh4 t g x).Nodup/\∀s:Nat,s∈bh4 t g x↔∃f,t.ah[s]?=some f/\f.cK/\f.g=g:=by
 obtain⟨ls,I⟩:=R.1.inv;have L:=bT4;have E:=(R.rest D hx).2.2;have key:∀(s:Nat) f,t.ah[s]?=some f->f.cK=true->f.g=g->eP x s f:=λs f m o q=>by obtain⟨j,y,a,b,c⟩:=R.2.1.2.lv s f m o;grind
 unfold bh4;by_cases w:x.ae=14
 .rw[aF ⟨oX,w⟩];by_cases h9:(aP x).ai=9
  .rw[aF h9];obtain⟨u,H,z⟩:=bW3;have r:∀i∈x.aH,∃s:Nat,x.bA[i.toNat]?=some (s:Int):=λi F=>by obtain⟨v,a,b⟩:=z.all oX i F;exact⟨v.toNat,by rw[a];congr 1;omega⟩
   refine⟨?_,λs=>⟨λh=>?_,λ⟨f,m,o,q⟩=>?_⟩⟩
   .unfold List.Nodup;rw[ak0];refine List.Pairwise.imp_of_mem (λ{a b} A B G e=>G ?_) u.nd;obtain⟨s,l⟩:=r a A;obtain⟨d,C⟩:=r b B;rw[l,C]at e;have e:s=d:=(by simpa using e);subst e;obtain⟨f,c1,_,_,c4,_⟩:=I.bA g x _ s hx l;obtain⟨J,d1,_,_,d4,_⟩:=I.bA g x _ s hx C;rw[c1]at d1;cases d1;have:=(u.ord a A).1;have:=(u.ord b B).1;omega
   .grind [Inv.bA]
   rcases key s f m o q with⟨h,_⟩|⟨_,d,l,_⟩
   .exact aX h9 h
   refine ak3.2 ⟨f.case,?_,by rw[l];simp⟩;have:=(z.own _ s l oX).2;grind
  rw[aE h9];obtain⟨u,r⟩:=pz (L.bY h9 oX);rw[r];refine⟨sX,λs=>⟨λh=>?_,λ⟨f,m,o,q⟩=>?_⟩⟩
  .grind [Inv.bY]
  rcases key s f m o q with⟨_,h,_⟩|⟨h,_⟩;all_goals grind
 rw[aE (λh=>w h.2)];refine⟨List.nodup_nil,λs=>⟨λh=>ck3,λ⟨f,m,o,q⟩=>?_⟩⟩;exfalso;rcases key s f m o q with⟨h,r,_⟩|⟨h,_,l,_⟩
 .grind [Loc.tI]
 rcases E with⟨d,_⟩|⟨d,_⟩
 .rw[(L.begin d).bA]at l;simp at l
 have:=L.rest h oX _ (lf l);omega
theorem xK.bB4(R:xK p UB n t)(d:cE t.ax=[]):∀j,j<=t.gs.length->(bg2 t j).Nodup/\∀s,s∈bg2 t j↔∃c,t.ah[s]?=some c/\c.cK/\0<=c.g/\c.g<j
 |0,_=>⟨List.nodup_nil,λs=>⟨λh=>ck3,λ⟨c,_,_,a,b⟩=>oX⟩⟩
 |j+1,e=>by obtain⟨a,b⟩:=xK.bB4 R d j oX;have f:t.gs[j]?=t.gs[j]' oX:=fv oX;grind [owned,bg2]
theorem xK.bE4(R:xK p UB n t)(f:cE t.ax=[]):bh3 t t.ah=br3 t t.gs:=by
 obtain⟨a,b⟩:=R.bB4 f t.gs cG;rw[bl8,<-bh5]
 have c:∀s,s∈(List.range t.ah.length).filter (bd7 t)↔s∈bg2 t t.gs.length:=λs=>by
  rw[b,List.mem_filter,bI2];unfold bd7;constructor
  .rintro⟨d,e⟩;rw[fv d]at e;obtain⟨g,x,i,j,_⟩:=R.2.1.2.lv s _ (fv d) e;grind
  grind
 have d:((List.range t.ah.length).filter (bd7 t)).Nodup:=List.Pairwise.filter _ List.nodup_range;exact Nat.le_antisymm (bd1 d λs h=>(c s).1 h) (bd1 a λs h=>(c s).2 h)
end
end V
variable{Pb:Nat->Prop}{v0 v1 v2 vg vh vs v6 v7 v8 v9 v10 vd:Value}
@[simp] theorem bq5(h:kL v u) (n:Nat):kL v (u.drewN n):=h.trans ⟨ii,ii,ii,rx _,λ_ _=>rfl⟩
theorem bq6(g:List (bI×Int))(s:am)(E:Nat)(w:World)(H:ix gE Pb w s g){u:bI×Int}(i:g[n]?=u)(t:u.1.at_=z)(j:u.1.ops[z]?=L):gt 37 #[Uo v0 v1 v2 (s,g.length,E) vh vs v6 v7 v8 v9 v10 vd,I n] w λe F=>(∃x k,e=qG L x k)/\kL w F:=by
 have G:=H.1;have J:=um i;have K:=um j;obtain⟨b,off,A,rfl,l,R⟩:=aZ8 H i;obtain⟨Y,M,v,o⟩:=l.ops;have p:=o.1;obtain⟨N,q,Z,rfl,⟨x,k,rfl,O⟩,R2,Q⟩:=o.get (n:=6) j;have T:∀W,kL w W->W.cell? ⟨b,off+n*25,none⟩=some (.slice (some ⟨N,q,none⟩) u.1.ops.length M):=λW f=>R W f 0 _ v
 have k1:∀W,kL w W->W.cell? (b,off+n*25+1)=I z:=λW f=>by rw[<-t];exact R W f 1 _ l.at_
 obtain⟨c,y⟩:=dC (u.1.ops.length);rw[<-y]at T K p;obtain⟨m,B⟩:∃c,c=g.length:=⟨_,ii⟩;rw[<-B]at G J ⊢;clear H i j l R v O o t y B;go_enter func37,ntmps37;go_upto_region 1 with fail
 generalize f:World.alloc (World.alloc w _) _=C;obtain⟨d,S,⟨K1,_⟩,⟨K2,F2⟩,U⟩:=aa0 f;clear f;go_quiet (fail);obtain⟨V,r⟩:=dC (C.drewN nq);rw[<-r];have D:kL C V:=by rw[r];exact bq5 (kb _) _
 have X:=d.trans D;have HS:=ag S;clear r S;go_wp2;refine WP 14 kX kX ?_;change wpStill _ _ (World.drew _) (λa=>wpList _ _ _ _ a (World.drew _)) _ _;simp only[sS,aW1,sU,rC];repeat still_step
 refine aj0 ?_;go_wp2;refine bj2 ii ii (heap_drew (bl2 (kL.heap D U) _ _ _ _ _ _)) bx9 ?_;exact⟨⟨x,k,ii⟩,m8 (Gv (Gv (Gv (Gv (Gv (Gv X (aj5 _) _) (aj5 _) _) (aj5 _) _) (aj5 _) _) (aj5 _) _) (aj5 _) _)⟩
def bq7(u:bI×Int):Nat:=if u.2=1/\u.1.ae=14 then(if(V.aP u.1).ai=9 then u.1.aH.length else 1)else 0
def aZ9(a:List (bI×Int)):Nat->Nat
 |0=>0
 |j+1=>aZ9 a j+((a[j]?).map bq7).getD 0
theorem bu9(h:e.at_=b)(a:e.ops[b]?=L):V.aP e=L:=by
 unfold V.aP idx;rw[h,aF oX,oU,a];rfl
theorem bq8(a:List (bI×Int))(l:am)(y:Nat)(w:World)(H:ix gE Pb w l a)(hl:a.length<=100)(z:∀u∈a,u.1.aH.length<=100)(F:∀u∈a,u.2=1->∃(j:Nat) (o:cu),u.1.at_=j/\u.1.ops[j]?=o):gt 17 #[Uo v0 v1 v2 (l,a.length,y) vh vs v6 v7 v8 v9 v10 vd] w (eL (I (aZ9 a a)) (kL w)):=by
 have RH:=H.1;obtain⟨Y,Z,H8⟩:=ij H F z;have G:Hid (∀(g j:Nat) u o W v,v=Uo v0 v1 v2 (l,a.length,y) vh vs v6 v7 v8 v9 v10 vd->kL w W->a[g]?=some u->u.1.at_=j->u.1.ops[j]?=some o->gt 37 #[v,I g] W λe w'=>(∃x B,e=qG o x B)/\kL W w'):=λg j u o W v hv hW m p h3=>by rw[hv];exact bq6 a l y W (H.later hW) m p h3
 clear H F z;go_enter func17,ntmps17;go_upto_region 1 with fail
 generalize hW:World.alloc w _=J;obtain⟨L,S,⟨K1,_⟩,_⟩:=bN5;clear hW;go_wp2;go_loopw [3,4,9] (λn _ i wr=>∃(j k:Nat),n=.int .i64 k/\Hid (k=aZ9 a j)/\k<=100*j/\j<=a.length/\i=.int .i64 j/\kL J wr) (λ_ _ i _=>a.length-(intOf i).toNat)
 case atStart=>exact⟨0,0,ii,ii,wn _,wn _,ii,sX⟩
 obtain⟨j,k,rfl,HK,hk,hj,rfl,hb⟩:=hrel;by_cases dD:j<a.length
 .obtain⟨u,d⟩:∃u,a[j]?=some u:=⟨_,fv dD⟩;obtain⟨b,off,A,rfl,C,R⟩:=aZ8 Y d;have HG:=ag C;have z:=H8.out u (lf d);have K:=ag d;have Pu:=Z.out u (lf d);obtain⟨ob,od,M⟩:=C.ord;have N:=R wr (L.trans hb);have HN:Hid (aZ9 a (j+1)=aZ9 a j+bq7 u):=by show aZ9 a j+((a[j]?).map bq7).getD 0=_;rw[d];rfl
  clear d C R
  go_upto_region 5 with(first
   |(refine wpList_load_mid ii 100 (.tmp 12) ii b (off+j*25) ii A N cQ.1 cj6 ?_)
   |(refine df ii 100 (.tmp 5) (.tmp 13) ii wr ii A ii ii cj6 co1 HG.out.one ?_))
  generalize hW:World.alloc wr _=q;obtain⟨L2,S2,⟨r,_⟩,HX⟩:=bN5;have b2:=bN6;have O:=L.trans b2;have hz:=HG.out.size;have k3:∀W,kL q W->W.cell? ⟨wr.heap.size,3,none⟩=some (I u.2):=λW h=>(r W h 3 oX).trans HG.out.st
  have k2:∀W,kL q W->W.cell? ⟨wr.heap.size,2,none⟩=some (I u.1.ae):=λW h=>(r W h 2 oX).trans HG.out.pl
  have D:∀W,kL q W->W.cell? ⟨wr.heap.size,20,none⟩=some (.slice ob u.1.aH.length od):=λW h=>(r W h 20 oX).trans M
  clear hW r hz M N;have up:∀W,kL q W->kL J W:=λW h=>b2.trans h
  by_cases Q:u.2=1
  case neg=>
   exact cb9
  by_cases e2:u.1.ae=14
  case neg=>
   exact cb9
  obtain⟨t,o,m,p⟩:=Pu Q;have f:=ag (dO m p);clear m p;have T:Hid (aZ9 a (j+1)=aZ9 a j+if o.ai=9 then u.1.aH.length else 1):=by have:=HN.out;unfold bq7 at this;rw[aF ⟨Q,e2⟩,bu9 f.out.1 f.out.2]at this;exact this
  have Ii:=Sc;rcases U:o.ai==9 with _|_
  case true=>
   have c:Hid (aZ9 a (j+1)=aZ9 a j+u.1.aH.length):=(by have:=T.out;rw[aF (by simpa using U)]at this;exact this);go_upto_region 7 with(go_at_call 37;refine(G j t u o _ _ cj4 O K f.out.1 f.out.2).mono ?_;rintro e X ⟨⟨x,B,rfl⟩,s⟩;have E:=b2.trans s)
   have a0:=D X s;go_wp2;exact⟨⟨j+1,k+u.1.aH.length,cj8,by show _=aZ9 a (j+1);rw[c.out,<-HK.out],oX,oX,cj8,E⟩,cj2⟩
  have c:Hid (aZ9 a (j+1)=aZ9 a j+1):=by have:=T.out;rw[aE (by simpa using U)]at this;exact this
  go_wp2_with (go_at_call 37;refine(G j t u o _ _ cj4 O K f.out.1 f.out.2).mono ?_;rintro e X ⟨⟨x,B,rfl⟩,s⟩;have E:=b2.trans s);exact⟨⟨j+1,k+1,cj8,by show _=aZ9 a (j+1);rw[c.out,<-HK.out],oX,oX,cj8,E⟩,cj2⟩
 obtain rfl:j=a.length:=oX
 go_wp2;go_ret;exact⟨by rw[<-HK.out];rfl,L.trans hb⟩
variable{Pb:Nat->Prop}{v0 v1 v2 vg vh vs v6 v7 v8 v9 v10 vd:Value}
theorem bB2:XS 22 50 1:=⟨by kernel_rfl,by kernel_rfl⟩
theorem bq9(d:List (bI×Int))(q:am)(F:Nat)(f w:World)(H:wS gE Pb f w q d):gt 66 #[Uo v0 v1 v2 (q,d.length,F) vh vs v6 v7 v8 v9 v10 vd] w λe g=>∃a c,e=.returned (a,(d.map (·.1.ops)).length,c)/\Own bc2 50 Pb f w g (.slice a (d.map (·.1.ops)).length c) (d.map (·.1.ops)):=by
 have Z:=H.1;have G:=ag H;clear H;obtain⟨Q,n⟩:∃Q:Ending->World->Prop,Q=λe g=>∃a c,e=.returned (.slice a (d.map (·.1.ops)).length c)/\Own bc2 50 Pb f w g (.slice a (d.map (·.1.ops)).length c) (d.map (·.1.ops)):=⟨_,ii⟩
 have HQ:Hid (∀a c g,Own bc2 50 Pb f w g (.slice a (d.map (·.1.ops)).length c) (d.map (·.1.ops))->Q (Value.slice a (d.map (·.1.ops)).length c) g):=λa c g h=>by rw[n];exact⟨a,c,ii,h⟩
 rw[<-n];clear n;go_enter func66,ntmps66;go_upto_region 1 with fail
 generalize hW:World.alloc w _=k;obtain⟨L,S,⟨K1,_⟩,_⟩:=bN5;clear S;clear hW;go_wp2;go_loopw [3,10] (λv i wr=>∃(j:Nat) (a:am) (c m:Nat),j<=d.length/\i=.int .i64 j/\v=.slice a m c/\kL k wr/\Hid (m=((d.take j).map (·.1.ops)).length/\Own bc2 50 Pb f k wr v ((d.take j).map (·.1.ops)))) (λ_ i _=>d.length-(intOf i).toNat)
 case atStart=>exact⟨0,_,_,_,wn _,ii,ii,sX,ii,Own.ofE sX (aA4) cG⟩
 obtain⟨j,a,c,m,hj,rfl,rfl,hb,r⟩:=hrel;by_cases I:j<d.length
 .obtain⟨u,o⟩:∃u,d[j]?=some u:=⟨_,fv I⟩;have J:Hid ((d.take (j+1)).map (·.1.ops)=(d.take j).map (·.1.ops)++[u.1.ops]):=by show _=_;rw[as4,o];simp
  obtain⟨b,off,A,rfl,p,R⟩:=aZ8 G o;have HG:=ag p;obtain⟨s,t,x,z⟩:=p.ops;have M:=ag z;have B:=R wr (L.trans hb);have l:Hid (((d.take j).map (·.1.ops)).length=j):=by show _=_;rw[ko,tC];omega
  clear o p R z
  go_upto_region 5 with(first
   |(refine wpList_load_mid ii 100 (.tmp 12) ii b (off+j*25) ii A B cQ.1 cj6 ?_)
   |(refine df ii 100 (.tmp 5) (.tmp 13) ii wr ii A ii ii cj6 co1 HG.out.one ?_))
  generalize hW:World.alloc wr _=C;obtain⟨L2,S2,⟨D,_⟩,HX⟩:=bN5;clear S2;have b2:=bN6;have N:=HG.out.size;have k0:∀W,kL C W->W.cell? ⟨wr.heap.size,0,none⟩=some (.slice s u.1.ops.length t):=λW h=>(D W h 0 oX).trans x
  have O:Hid (Own bc2 50 Pb f k C (.slice a m c) ((d.take j).map (·.1.ops))):=by rw[<-hW];exact r.out.2.alloc _
  clear hW D N x B;go_wp2_with (refine ae2 ii λK T=>aY0 (E:=bc2) (P:=Pb) (wF:=f) (w0:=k) (xs:=(d.take j).map (·.1.ops)) (y:=u.1.ops) (.tmp 14) (.tmp 17) 22 50 rfl bB2 dX ii (by exact O.out.alloc _) ii cu9 (by exact⟨s,t,ii,M⟩) (by have:=l.out;omega) λv1 W5 H5 U=>T _ _ ?_;obtain⟨a1,c1,rfl⟩:=bN8;have X:=H5.1;have Y:=ag H5;clear H5 U);exact⟨⟨j+1,_,_,_,oX,cj8,ii,X,by rw[J.out];exact⟨by rw[aU7,l.out];rfl,by have h:=Y.out;rw[aU7,l.out]at h;exact h⟩⟩,cj2⟩
 go_wp2;obtain⟨l,h⟩:=r.out;grind [Hid.out,Own.down]