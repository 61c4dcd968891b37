import Derived.Test.YtadifmnmfnihdaaGreatA07
import Derived.Test.YtadifmnmfnihdaaGreatA08
set_option linter.all false
set_option maxRecDepth 100000
set_option maxHeartbeats 40000000
namespace Go.Proofs.YtadifmnmfnihdaaGreat
open Mach
variable{t E S':Wd}{N:ap}{e O:bI}{Y:Int}{b n z cp:Nat}{T sd:fE}{G:Fx}{u f w' w2:World}{Q:Mem}{us:dl}{J:bi}
namespace V
structure bK(w w':Wd):Prop where
 ops:w'.gs.map (·.ops)=w.gs.map (·.ops)
 av:w'.av=w.av
 list:w'.list=w.list
 drawn:w'.drawn=w.drawn
 done:w'.done=w.done
 au:w'.au=w.au.length
theorem dW{a:List bI}(c:a[b]?=e)(h:O.ops=e.ops):(a.set b O).map (·.ops)=a.map (·.ops):=by
 rw[at9,h];apply ad9;grind
theorem bK.refl(w:Wd):bK w w:=⟨ii,ii,ii,ii,ii,ii⟩
theorem bK.trans{a b c:Wd}(h:bK a b)(k:bK b c):bK a c:=⟨k.ops.trans h.ops,k.av.trans h.av,k.list.trans h.list,k.drawn.trans h.drawn,k.done.trans h.done,k.au.trans h.au⟩
section
variable{r:Ring}(h:r.Ok)
include h
theorem Ring.C2(v:Int):(r.put v).1.Ok:=by
 obtain⟨a,b,c,d,f⟩:=h;unfold Ring.put Ring.full;split
 .exact⟨a,b,c,d,f⟩
 rename_i e;simp only[lm]at e;constructor<;>simp<;>omega
theorem UN(a:r.pl0≠[])(i:Int):(r.at_ i:Int)<r.pl0:=by
 have:0<r.pl0.length:=pd a;unfold Ring.at_;have c:=as1 (r.first+i) (b:=(r.pl0.length:Int)) oX;have d:=aj7 (r.first+i) (b:=(r.pl0.length:Int)) oX;omega
theorem Ring.Vj:r.get.1.Ok:=by
 unfold Ring.get;exact cc2
theorem Ring.Kg(v:Int):(r.pass v).1.Ok:=by
 unfold Ring.pass;exact cc2
end
def Na(w:Wd)(g:Nat):Prop:=∃t,w.ax[g]?=some (0,t)
theorem SF(h:bU t.ax b=0)(d:b<t.ax):Na t b:=by
 obtain⟨⟨s,a⟩,c⟩:∃p,t.ax[b]?=some p:=⟨_,fv d⟩;unfold bU idx at h;simp[c]at h;subst h;exact⟨a,c⟩
section
variable{w:Wd}{g:Nat}{x x':bI}
section
variable(I:Inv w N)(hx:w.gs[g]?=x)(hs:Na w g)(M:lH x x')(p:(x'.ae=14->x.ae=14)/\x'.ae≠19)(hL:Loc w.au x')(hh:∀c,aL x' c↔aL x c)(ho:x'.ops=x.ops)
include I hx hs M p hL hh ho
theorem Inv.ku:Inv (w.ay g x') N/\bK w (w.ay g x'):=
 ⟨I.frame hx hs M p.1 p.2 hL ii ii ii I.au ii ii (I.lock.same hx hh) ii ii ii,dW hx ho,ii,ii,ii,ii,ii⟩
theorem Inv.LN{r:Ring}(c:r.Ok):Inv ((w.dZ b r).ay g x') N/\bK w ((w.dZ b r).ay g x'):=
 ⟨I.frame hx hs M p.1 p.2 hL ii ii (by simp[Wd.dZ,Wd.ay]) (λd a=>by
   simp only[Wd.dZ,Wd.ay]at a;rcases at1 a with h|h
   .exact I.au d h
   rw[h];exact c) ii ii (I.lock.same hx hh) ii ii ii,dW hx ho,ii,ii,ii,ii,by simp[Wd.dZ,Wd.ay]⟩
end
theorem Inv.same(I:Inv w N)(a:t.gs=w.gs)(b:t.ax=w.ax)(c:t.au=w.au)(d:t.aO=w.aO.length)(e:t.aq=w.aq)(f:t.ah=w.ah)(h:t.ef=w.ef)(i:t.Eg=w.Eg):Inv t N:=by
 cases w;cases t;simp only at*;subst a b c e f h i;exact⟨I.n8,I.ax,I.c8,d.trans I.aO,I.aq,I.au,I.JZ,I.aS,I.bM,I.Eg,I.q,I.loc,I.lock,I.cK,I.bY,I.bA,I.EJ,I.look,I.claim,I.pE,I.served,I.st,I.jn,I.pg,I.rf⟩
theorem gz(I:Inv w N)(h:1<=Y/\Y<=w.au):cZ w Y/\∃r,kq w Y=some ((Y-1).toNat,r)/\r.Ok:=by
 obtain⟨r,a⟩:∃r,w.au[(Y-1).toNat]?=some r:=⟨_,fv oX⟩;refine⟨by unfold cZ;simp;omega,r,?_,I.au r (lf a)⟩;unfold kq nat?;simp_all
theorem pj(I:Inv w N)(hx:w.gs[g]?=x)(a:x.ae≠0):mf w g=aP x/\Vz (aP x):=by
 have L:=bT4;have b:aP x∈x.ops:=by have c:=L.Uy a;have d:=L.JY.1;unfold aP idx;grind
 have hR:=L.ops _ b;exact cf3
theorem oM(a:x'.ops=x.ops)(b:x'.at_=x.at_):aP x'=aP x:=by unfold aP;rw[a,b]
variable{C:Nat}
section
variable(L:Loc C x)(hk:(aP x).ai=4\/(aP x).ai=5)(hp:x.ae=1)
include L hk hp
theorem M.s1a:lH x {x with ae:=4}/\Loc C {x with ae:=4}/\∀c,aL {x with ae:=4} c↔aL x c:=by
 have e:aP {x with ae:=4}=aP x:=rfl;exact bZ0
theorem M.s1b(p:Int):lH x {x with lQ:=p,ae:=2}/\Loc C {x with lQ:=p,ae:=2}/\∀c,aL {x with lQ:=p,ae:=2} c↔aL x c:=by
 have e:aP {x with lQ:=p,ae:=2}=aP x:=rfl;exact bZ0
end
theorem M.s2a(L:Loc C x)(a:(aP x).ai=4)(hp:x.ae=2):lH x {x with lQ:=0,ae:=4}/\Loc C {x with lQ:=0,ae:=4}/\∀c,aL {x with lQ:=0,ae:=4} c↔aL x c:=by
 have e:aP {x with lQ:=0,ae:=4}=aP x:=rfl;exact bZ0
theorem M.s2b(L:Loc C x)(a:(aP x).ai=4\/(aP x).ai=5)(hp:x.ae=2):lH x {x with res:={x.res with aJ:=2},ae:=18}/\Loc C {x with res:={x.res with aJ:=2},ae:=18}/\∀c,aL {x with res:={x.res with aJ:=2},ae:=18} c↔aL x c:=by
 have e:aP {x with res:={x.res with aJ:=2},ae:=18}=aP x:=rfl;exact bZ0
section
variable(L:Loc C x)(hk:(aP x).ai=5)
include L hk
theorem M.r2a(hp:x.ae=2):lH x {x with ae:=3}/\Loc C {x with ae:=3}/\∀c,aL {x with ae:=3} c↔aL x c:=by
 have e:aP {x with ae:=3}=aP x:=rfl;exact bZ0
theorem M.r3a(hp:x.ae=3):lH x {x with lQ:=0,ae:=4}/\Loc C {x with lQ:=0,ae:=4}/\∀c,aL {x with lQ:=0,ae:=4} c↔aL x c:=by
 have e:aP {x with lQ:=0,ae:=4}=aP x:=rfl;exact bZ0
theorem M.r3b(hp:x.ae=3)(p:Int):lH x {x with res:={aJ:=1,case:= -1},lQ:=p,ae:=18}/\Loc C {x with res:={aJ:=1,case:= -1},lQ:=p,ae:=18}/\∀c,aL {x with res:={aJ:=1,case:= -1},lQ:=p,ae:=18} c↔aL x c:=by
 have e:aP {x with res:={aJ:=1,case:= -1},lQ:=p,ae:=18}=aP x:=rfl;exact bZ0
end
section
variable(L:Loc C x)(hk:2<=(aP x).ai/\(aP x).ai<=5)
include L hk
theorem M.s5a(hp:x.ae=5)(p:Int)(r:nP)(a:r.case= -1):lH x {x with res:=r,lQ:=p,ae:=16}/\Loc C {x with res:=r,lQ:=p,ae:=16}/\∀c,aL {x with res:=r,lQ:=p,ae:=16} c↔aL x c:=by
 have e:aP {x with res:=r,lQ:=p,ae:=16}=aP x:=rfl;exact bZ0
theorem M.s5b(hp:x.ae=5):lH x {x with ae:=6}/\Loc C {x with ae:=6}/\∀c,aL {x with ae:=6} c↔aL x c:=by
 have e:aP {x with ae:=6}=aP x:=rfl;exact bZ0
theorem M.s5c(hp:x.ae=5):lH x {x with ae:=9}/\Loc C {x with ae:=9}/\∀c,aL {x with ae:=9} c↔aL x c:=by
 have e:aP {x with ae:=9}=aP x:=rfl;exact bZ0
theorem M.s6(hp:x.ae=6):lH x {x with ae:=9}/\Loc C {x with ae:=9}/\∀c,aL {x with ae:=9} c↔aL x c:=by
 have e:aP {x with ae:=9}=aP x:=rfl;exact bZ0
theorem M.s9a(hp:x.ae=9)(p:Int)(r:nP)(a:r.case= -1):lH x {x with res:=r,lQ:=p,ae:=16}/\Loc C {x with res:=r,lQ:=p,ae:=16}/\∀c,aL {x with res:=r,lQ:=p,ae:=16} c↔aL x c:=by
 have e:aP {x with res:=r,lQ:=p,ae:=16}=aP x:=rfl;exact bZ0
end
section
variable(L:Loc C x)(hk:(aP x).ai=2\/(aP x).ai=3)
include L hk
theorem M.s9b(hp:x.ae=9):lH x {x with ae:=10}/\Loc C {x with ae:=10}/\∀c,aL {x with ae:=10} c↔aL x c:=by
 have e:aP {x with ae:=10}=aP x:=rfl;exact bZ0
theorem M.V1(hp:x.ae=10):lH x {x with res:={x.res with aJ:=6},ae:=16}/\Loc C {x with res:={x.res with aJ:=6},ae:=16}/\∀c,aL {x with res:={x.res with aJ:=6},ae:=16} c↔aL x c:=by
 have e:aP {x with res:={x.res with aJ:=6},ae:=16}=aP x:=rfl;exact bZ0
end
section
variable(L:Loc C x)(hk:(aP x).ai=6)(hp:x.ae=21)(p:Int)(r:nP)(hr:r.case= -1)
include L hk hp p r hr
theorem M.am1:lH x {x with lQ:=p,res:=r,ae:=16}/\Loc C {x with lQ:=p,res:=r,ae:=16}/\∀c,aL {x with lQ:=p,res:=r,ae:=16} c↔aL x c:=by
 have e:aP {x with lQ:=p,res:=r,ae:=16}=aP x:=rfl;exact bZ0
theorem M.am2:lH x {x with lQ:=p,res:=r,ae:=22}/\Loc C {x with lQ:=p,res:=r,ae:=22}/\∀c,aL {x with lQ:=p,res:=r,ae:=22} c↔aL x c:=by
 have e:aP {x with lQ:=p,res:=r,ae:=22}=aP x:=rfl;exact bZ0
end
theorem M.h22(L:Loc C x)(a:(aP x).ai=6)(hp:x.ae=22):lH x {x with ae:=16}/\Loc C {x with ae:=16}/\∀c,aL {x with ae:=16} c↔aL x c:=by
 have e:aP {x with ae:=16}=aP x:=rfl;exact bZ0
theorem M.o20(L:Loc C x)(a:(aP x).ai≠9)(hp:x.ae=20)(p:Int)(r:nP)(b:r.case= -1):lH x {x with res:=r,lQ:=p,ae:=18}/\Loc C {x with res:=r,lQ:=p,ae:=18}/\∀c,aL {x with res:=r,lQ:=p,ae:=18} c↔aL x c:=by
 have e:aP {x with res:=r,lQ:=p,ae:=18}=aP x:=rfl;exact bZ0
theorem qK(a:w.gs[g]?=x){f:bI->bI}:fL w g f=w.ay g (f x):=by unfold fL;rw[a];rfl
theorem aX9(a:w.gs[g]?=x)(p:Int):Gt w g p=w.ay g {x with ae:=p}:=qK a
theorem Fs(I:Inv w N)(h:1<=Y/\Y<=w.au):∃b,idx w.aO (Y-1)=some b/\dK w Y=b:=by
 obtain⟨b,a⟩:∃b,w.aO[(Y-1).toNat]?=some b:=⟨_,fv (by have:=I.aO;omega)⟩;have e:idx w.aO (Y-1)=some b:=by unfold idx;rw[aF oX];exact a
 exact⟨b,e,by unfold dK;rw[(gz I h).1,e];rfl⟩
section
variable(I:Inv w N)(hx:w.gs[g]?=x)(hs:Na w g)
include I hx hs
theorem Df(e:(aP x).ai=4)(f:x.ae=1):∃t,aW7 w g (aP x).ch=some t/\Inv t N/\bK w t:=by
 have L:=bT4;obtain⟨i,r,j,l⟩:=bT5;obtain⟨b,k⟩:∃b,pY w (aP x).ch=some b:=by unfold pY;rw[i,j];simp only[aH6,dF,bW,eN];split<;>exact⟨_,ii⟩
 unfold aW7;simp only[k,bW,eN]
 cases b with
 |true=>obtain⟨a,c,d⟩:=M.s1a L (.inl e) f;exact⟨_,aX9 hx 4,I.ku hx hs a ⟨sX,sX⟩ c d ii⟩
 |false=>obtain⟨a,c,d⟩:=M.s1b L (.inl e) f w.av;exact⟨_,qK hx,I.ku hx hs a ⟨sX,sX⟩ c d ii⟩
theorem AR(a:(aP x).ai=4)(b:x.ae=2):∃t,jG w g (aP x).ch=some t/\Inv t N/\bK w t:=by
 grind [Inv.loc,jG,M.s2a,qK,Inv.ku,M.s2b]
theorem AS(a:(aP x).ai=2\/(aP x).ai=4)(hp:x.ae=5):∃t,jH w g (aP x).ch=some t/\Inv t N/\bK w t:=by
 have L:=bT4;unfold jH;split
 .obtain⟨m1,m2,m3⟩:=M.s5a L oX hp w.av (bZ 3) ii;exact⟨_,qK hx,I.ku hx hs m1 ⟨sX,sX⟩ m2 m3 ii⟩
 exact cf2
theorem qL(k:(aP x).ai=2\/(aP x).ai=4)(d:x.ae=9):∃t,jY w g (aP x)=some t/\Inv t N/\bK w t:=by
 have L:=bT4;obtain⟨i,r,j,e⟩:=bT5;unfold jY aH8;simp only[i,j,dt,bW,eN];have f:(w.dZ ((aP x).ch-1).toNat (r.put (aP x).v).1).gs[g]?=x:=hx
 cases(r.put (aP x).v).2 with
 |true=>obtain⟨a,b,c⟩:=M.s9a L oX d w.av (bZ 1) ii;exact⟨_,qK f,I.LN hx hs a ⟨sX,sX⟩ b c ii (Ring.C2 e _)⟩
 |false=>
  simp only[nW,dF];split
  .obtain⟨a,b,c⟩:=M.s9a L oX d w.av (bZ 2) ii;exact⟨_,qK f,I.LN hx hs a ⟨sX,sX⟩ b c ii (Ring.C2 e _)⟩
  obtain⟨a,b,c⟩:=M.s9b L oX d;exact⟨_,aX9 f 10,I.LN hx hs a ⟨sX,sX⟩ b c ii (Ring.C2 e _)⟩
end
theorem Dg(I:Inv w N)(h:1<=Y/\Y<=w.au):∃b,iX w Y=some b:=by
 obtain⟨a,r,c,d⟩:=gz I h;unfold iX;rw[a,c];simp only[aH6,dF,bW,eN];split<;>exact⟨_,ii⟩
section
variable(I:Inv w N)(hx:w.gs[g]?=x)(hs:Na w g)
include I hx hs
theorem Dh(f:(aP x).ai=5)(a:x.ae=1\/x.ae=2\/x.ae=3):∃t,aW9 w g (aP x).ch=some t/\Inv t N/\bK w t:=by
 have L:=bT4;obtain⟨b,i⟩:=Dg I (L.cZ oX oX oX oX oX);unfold aW9;simp only[hx,bW,eN];rcases a with a|a|a
 .simp only[a,dt,i,eN]
  cases b with
  |true=>obtain⟨c,d,e⟩:=M.s1a L (.inr f) a;exact⟨_,aX9 hx 4,I.ku hx hs c ⟨sX,sX⟩ d e ii⟩
  |false=>obtain⟨c,d,e⟩:=M.s1b L (.inr f) a w.av;exact⟨_,ii,I.ku hx hs c ⟨sX,sX⟩ d e ii⟩
 .rw[aE oX,aF a];split
  .obtain⟨c,d,e⟩:=M.r2a L f a;exact⟨_,aX9 hx 3,I.ku hx hs c ⟨sX,sX⟩ d e ii⟩
  grind [M.s2b,Inv.ku]
 rw[aE oX,aE oX];simp only[i,eN]
 cases b with
 |true=>obtain⟨c,d,e⟩:=M.r3a L f a;exact⟨_,ii,I.ku hx hs c ⟨sX,sX⟩ d e ii⟩
 |false=>obtain⟨c,d,e⟩:=M.r3b L f a w.av;exact⟨_,ii,I.ku hx hs c ⟨sX,sX⟩ d e ii⟩
theorem AT(b:(aP x).ai=3\/(aP x).ai=5)(hp:x.ae=5):∃t,jI w g (aP x).ch=some t/\Inv t N/\bK w t:=by
 have L:=bT4;obtain⟨c,r,a,d⟩:=bT5;unfold jI;simp only[hx,a,bW,eN];split
 .split
  .obtain⟨m1,m2,m3⟩:=M.s5c L oX hp;exact⟨_,aX9 hx 9,I.ku hx hs m1 ⟨sX,sX⟩ m2 m3 ii⟩
  obtain⟨m1,m2,m3⟩:=M.s5a L oX hp w.av {aJ:=1,case:= -1} rfl;exact⟨_,ii,I.ku hx hs m1 ⟨sX,sX⟩ m2 m3 ii⟩
 exact cf2
theorem qM(k:(aP x).ai=3\/(aP x).ai=5)(d:x.ae=9):∃t,jZ w g (aP x)=some t/\Inv t N/\bK w t:=by
 have L:=bT4;obtain⟨i,r,j,e⟩:=bT5;unfold jZ getRing;simp only[i,j,dt,bW,eN];have f:(w.dZ ((aP x).ch-1).toNat r.get.1).gs[g]?=x:=hx
 cases r.get.2.2 with
 |true=>obtain⟨a,b,c⟩:=M.s9a L oX d w.av {aJ:=1,case:= -1,v:=r.get.2.1,ok:=true} rfl;exact⟨_,qK f,I.LN hx hs a ⟨sX,sX⟩ b c ii (Ring.Vj e)⟩
 |false=>
  simp only[nW,dF];split
  .obtain⟨a,b,c⟩:=M.s9b L oX d;exact⟨_,aX9 f 10,I.LN hx hs a ⟨sX,sX⟩ b c ii (Ring.Vj e)⟩
  obtain⟨a,b,c⟩:=M.s9a L oX d w.av {aJ:=2,case:= -1} rfl;exact⟨_,qK f,I.LN hx hs a ⟨sX,sX⟩ b c ii (Ring.Vj e)⟩
theorem LX(d:(aP x).ai=6)(f:x.ae=21):∃t,uD w g (aP x).ch=some t/\Inv t N/\bK w t:=by
 have L:=bT4;have i:=bT6;obtain⟨j,r,k,l⟩:=gz I i;unfold uD;simp only[hx,bW,eN];split
 .obtain⟨a,b,c⟩:=M.am1 L d f w.av {aJ:=4,case:= -1} rfl;exact⟨_,ii,I.ku hx hs a ⟨sX,sX⟩ b c ii⟩
 have m:=I.aO;have e:put w.aO ((aP x).ch-1) true=w.aO.set ((aP x).ch-1).toNat true:=by unfold put;rw[aF oX]
 simp only[e,km,eN];obtain⟨a,b,c⟩:=M.am2 L d f w.av {aJ:=1,case:= -1,ok:=true} rfl;exact⟨_,ii,I.frame hx hs a sX sX b ii ii ii I.au cs4 ii (I.lock.same hx c) ii ii ii,dW hx ii,ii,ii,ii,ii,ii⟩
end
end
section
variable{gs:List bI}{b:List (Int×Bool)}
theorem tc.keep(h:tc gs b)(c:gs[n]?=e)(i:aW e->aW O)(k:0<=e.aN->0<=O.aN)(l:O.ae=e.ae)(m:O.at_=e.at_)(o:O.ops=e.ops):tc (gs.set n O) b:=by
 intro j y s t f d;rcases cX c f with⟨a,g⟩|⟨p,rN⟩
 .subst a g;obtain⟨q,r,u,v,w,x,z⟩:=h _ e s t c d;grind
 exact h j y s t rN d
theorem pD.keep(h:pD gs b)(g:gs[n]?=e)(k:aW e->aW O)(l:0<=e.aN->0<=O.aN)(m:O.OK.Sublist e.OK)(o:O.ae=14->e.ae=14):pD (gs.set n O) b:=by
 intro j y z p q;have d:∃(c:Nat) (a:bI),gs[c]?=a/\z∈a.OK:=cp2
 obtain⟨c,a,J2,f⟩:=d;obtain⟨i,u,s,r,t,v,w,x,A⟩:=h c a z J2 f;grind [gd]
end
theorem iB(h:aW e):e.ae=12\/e.ae=13\/e.ae=14\/e.ae=29\/e.ae=30:=by
 rcases h with⟨_,h|h|h⟩|⟨_,h|⟨h,_⟩|h|h⟩<;>omega
theorem xZ(h:e.ae=12\/e.ae=13\/e.ae=14\/e.ae=29\/e.ae=30):¬aT e/\¬bm e:=by
 unfold aT bm;omega
theorem Loc.Wl(h:gU b e/\Ej e/\nm e)(o:aP O=aP e)(c:O.ae=e.ae)(i:O.res=e.res)(d:O.bA=e.bA)(a:O.aH=e.aH)(f:O.aq=e.aq)(g:O.k=e.k):gU b O/\Ej O/\nm O:=by
 obtain⟨⟨p,q,r,s,t,u,v⟩,w,⟨x,y,z,j,l,m,n⟩⟩:=h;refine⟨⟨by rw[a];exact p,by rw[a,o,f];exact q,by rw[a];exact r,by rw[a];exact s,by rw[f];exact t,by rw[f];exact u,by rw[f];exact v⟩,by unfold Ej at*;rw[c,a,f,g];exact w,⟨by rw[c,i,d];exact x,by rw[o,c,i,d];exact y,by rw[d,a];exact z,by rw[c,i,d,a];exact j,by rw[c,d,a,g];exact l,by rw[c,d,a,g];exact m,by rw[c,d,a,g];exact n⟩⟩
theorem Loc.ZJ(L:Loc n e)(i:aW e)(u:e.aN= -1)(p q f:Int)(b:Bool)(j:(aP e).ai≠9->f= -1)(k:(aP e).ai≠9->b=e.aR):Loc n {e with lQ:=p,bF:=q,fire:=f,aR:=b}:=by
 have v:=iB i;have l:¬e.ae=0:=oX
 have m:¬(e.ae=24\/e.ae=25\/e.ae=26\/e.ae=28):=oX
 have o:¬e.ae=27:=oX
 have r:¬0<=e.aN:=oX
 have s:¬(e.ae=31\/e.ae=32):=oX
 have t:(aP e).ai=9->¬((e.ae=30/\e.res.aJ≠0)\/e.ae=31\/e.ae=32\/e.ae=33\/e.ae=34\/e.ae=17\/e.ae=18):=by
  intro w;rcases i with⟨h,_⟩|⟨_,h⟩
  all_goals grind
 exact⟨L.JY,L.ops,L.Uy,L.kp,L.pl,λh=>aX h l,L.cZ,λa b c d g=>Loc.Wl (L.oW a b c d g) ii ii ii ii ii ii ii,L.ready,L.uP,L.bY,L.tI,L.yC,L.rest,L.br,L.aN,λa=>⟨j a,(L.plain a).2.1,(k a).trans (L.plain a).2.2⟩,λa c=>aX c m,λa=>aX a o,L.BE,λa=>⟨λc d=>aX d r,λc=>aX c s⟩,L.dG,λa c=>aX c (t a),L.num⟩
theorem Loc.by6(L:Loc n e)(i:aW e)(s:Nat)(j:(aP e).ai=9->e.aR):Loc n {e with aN:=(s:Int)}:=by
 have g:aW {e with aN:=(s:Int)}:=i;have l:=iB i;have k:¬e.ae=0:=oX
 exact⟨L.JY,L.ops,L.Uy,L.kp,L.pl,λh=>aX h k,L.cZ,λa b c d f=>Loc.Wl (L.oW a b c d f) ii ii ii ii ii ii ii,L.ready,L.uP,L.bY,L.tI,L.yC,L.rest,L.br,⟨ci9,λh=>aX g h⟩,L.plain,L.cO,L.hand,L.BE,λa=>⟨λ_ _=>j a,λ_=>j a⟩,L.dG,L.res,L.num⟩
theorem Loc.Wn(L:Loc n e)(i:e.ae=16\/e.ae=22\/e.ae=30/\e.res.aJ=1)(z:Int):Loc n {e with OK:=e.OK++[z]}:=by
 have g:¬e.ae=0:=oX
 exact⟨L.JY,L.ops,L.Uy,L.kp,L.pl,λh=>aX h g,L.cZ,λa b c d f=>Loc.Wl (L.oW a b c d f) ii ii ii ii ii ii ii,λh=>sX,λa b c d f=>(by simp only at a c f;omega),L.bY,L.tI,L.yC,L.rest,L.br,L.aN,L.plain,L.cO,L.hand,L.BE,L.aR,L.dG,L.res,L.num⟩
section
variable{w:Wd}
section
variable(I:Inv w N)
include I
theorem Inv.Wo(b:w.gs[z]?=e)(f:aW e)(g:e.aN= -1):(∃s,w.ax[z]?=some (s,false)/\(e.ae=14->s=1))/\∀(j:Nat) u,w.gs[j]?=some u->(z:Int) ∉ u.OK:=by
 constructor
 .obtain⟨⟨s,a⟩,c⟩:∃p,w.ax[z]?=some p:=⟨_,fv (by rw[I.ax];exact(um b))⟩;obtain⟨k,l,d,m,n,o,q⟩:=I.st z e s a b c
  cases a with
  |true=>have:=(d ii).2.2.1;omega
  |false=>
   grind
 intro j u c d;obtain⟨i,v,s,k,a,l,m,_⟩:=I.jn j u z c d;obtain rfl:i=z:=oX
 rw[b]at a;cases a;omega
theorem Inv.wj{s:Nat}{l:bv}(m:N[b]?=l)(n:s∈l)(A:w.ah[s]?=T)(J:T.g=z)(o:w.gs[z]?=e)(B:(aP e).ai=9->e.aR=false):∀(j:Nat) u (i:Nat) d,w.gs[j]?=some u->aT u->u.br=i->w.ah[i]?=some d->d.g≠z:=by
 intro j u i d C D K k L;obtain⟨c,p,M,O,Q,q,R,S,U,r,E,W,X,Y,v,F,Z⟩:=I.claim j u C D;obtain rfl:c=i:=oX
 rw[k]at q;cases q;obtain rfl:p=z:=oX
 rw[o]at r;cases r;by_cases f:(aP e).ai=9
 .rw[B f]at v;exact aX (v f) sX
 obtain⟨ZK,G,x3,x,a2,a3,y,H,_⟩:=I.EJ b l s m n;rw[A]at x;cases x;obtain rfl:G=p:=oX
 rw[o]at y;cases y;have e1:e.bY=s:=by rcases H with a|a;exact a.2.1;exact aX a.1 f
 have e2:e.bY=c:=by rcases E with a|a;exact a.2.1;exact aX a.1 f
 obtain rfl:c=s:=oX
 exact F f b l m n
theorem Inv.UY(i:w.gs[z]?=e)(n:aW e)(x:e.aN= -1)(y:∀(j:Nat) u (o:Nat) m,w.gs[j]?=some u->aT u->u.br=o->w.ah[o]?=some m->m.g≠z)(p q f:Int)(b:Bool)(A:(aP e).ai≠9->f= -1)(B:(aP e).ai≠9->b=e.aR):Inv (w.ay z {e with lQ:=p,bF:=q,fire:=f,aR:=b}) N/\bK w (w.ay z {e with lQ:=p,bF:=q,fire:=f,aR:=b}):=by
 have d:aP {e with lQ:=p,bF:=q,fire:=f,aR:=b}=aP e:=rfl;have J:aW {e with lQ:=p,bF:=q,fire:=f,aR:=b}↔aW e:=ak1;have L:=I.loc z e i;have C:=iB n;have r:=xZ C;have K:=I.iQ (x':={e with lQ:=p,bF:=q,fire:=f,aR:=b}) i ii ii ii;have W:=I.jU (x':={e with lQ:=p,bF:=q,fire:=f,aR:=b}) i (ae0 _);refine⟨I.aW6 i ?_ (λk l s v _ _ _ _ a c=>⟨(K.2.2 _ _).2 a,c⟩) K.1 K.2.1 (λj u s v D M E F G H=>aX H (y j u s v D E F G)) (λh=>aX h r.1) (λh=>aX h r.2) (λs h=>?_) W.1 W.2 ii ii ii I.au ii ii (I.lock.same i λc=>ak1) ii ii ii (I.st.keep i id id ii ii ii) (I.jn.keep i id id (ae0 _) id),dW i ii,ii,ii,ii,ii,ii⟩
 .exact L.ZJ n x p q f b A B
 simp only at h;omega
theorem Inv.Wp{s:Nat}(d:w.gs[z]?=e)(o:aW e)(J:e.aN= -1)(r:∀(j:Nat) u (f:Nat) i,w.gs[j]?=some u->aT u->u.br=f->w.ah[f]?=some i->i.g≠z)(m:w.ah[s]?=T)(v:T.cK)(n:T.g=z)(p:eP e s T)(x:e.fire=T.case)(y:(aP e).ai=9->e.aR)(A:∀(k:Nat) l,N[k]?=some l->s ∉ l):Inv (w.ay z {e with aN:=s}) N/\bK w (w.ay z {e with aN:=s}):=by
 have b:aP {e with aN:=(s:Int)}=aP e:=rfl;have M:aW {e with aN:=(s:Int)}↔aW e:=ak1;have L:=I.loc z e d;have B:=iB o;have q:=xZ B;have K:=I.iQ (x':={e with aN:=(s:Int)}) d ii ii ii;have W:=I.jU (x':={e with aN:=(s:Int)}) d (ae0 _);refine⟨I.aW6 d ?_ (λk l f i C D E O a c=>⟨(K.2.2 _ _).2 a,?_⟩) K.1 K.2.1 (λj u s T F Q G H m n=>aX n (r j u s T F G H m)) (λh=>aX h q.1) (λh=>aX h q.2) (λf h=>?_) W.1 W.2 ii ii ii I.au ii ii (I.lock.same d λc=>ak1) ii ii ii (I.st.keep d id (λ_=>ci9) ii ii ii) (I.jn.keep d id (λ_=>ci9) (ae0 _) id),dW d ii,ii,ii,ii,ii,ii⟩
 .exact L.by6 o s y
 .rcases c with c|c
  .exfalso;have R:e.bY=f:=by rcases a with a|a;exact a.2.1;exact aX a.1 c.1
   have S:e.bY=s:=(by rcases p with a|a;exact a.2.1;exact aX a.1 c.1);obtain rfl:f=s:=oX
   exact A k l C D
  exact .inr c
 simp only at h;obtain rfl:s=f:=oX
 exact⟨T,m,v,n,(K.2.2 _ _).2 p,x⟩
theorem Inv.Wq{g:Nat}{x y:bI}(hx:w.gs[g]?=x)(F:x.ae=16\/x.ae=22\/x.ae=30/\x.res.aJ=1)(G:¬aW x)(q:w.gs[z]?=y)(B:aW y)(H:0<=y.aN)(n:∃s,w.ax[z]?=some (s,false)/\(y.ae=14->s=1))(C:∀(j:Nat) u,w.gs[j]?=some u->(z:Int) ∉ u.OK):Inv (w.ay g {x with OK:=x.OK++[(z:Int)]}) N/\bK w (w.ay g {x with OK:=x.OK++[(z:Int)]}):=by
 have e:aP {x with OK:=x.OK++[(z:Int)]}=aP x:=rfl;have S:aW {x with OK:=x.OK++[(z:Int)]}↔aW x:=ak1;have L:=bT4;have D:¬aT x/\¬bm x:=by unfold aT bm;omega
 have K:=I.iQ (x':={x with OK:=x.OK++[(z:Int)]}) hx ii ii ii;obtain⟨s,n,J⟩:=n;have M:z≠g:=by rintro rfl;rw[hx]at q;cases q;exact G B
 refine⟨I.aW6 hx ?_ (λk l s O _ _ _ _ a c=>⟨(K.2.2 _ _).2 a,c⟩) K.1 K.2.1 (λj u s O _ _ _ _ _ _ a b c d f=>⟨(K.2.2 _ _).2 a,b,c,d,f,id⟩) (λh=>aX h D.1) (λh=>aX h D.2) (I.qB hx K.2.2 ii λ_=>rfl) ?_ ?_ rfl ii ii I.au ii ii (I.lock.same hx λc=>ak1) ii ii ii (I.st.keep hx id id ii ii ii) ?_,dW hx ii,ii,ii,ii,ii,ii⟩
 .exact L.Wn F z
 .rw[tB];exact⟨I.pg g x hx,sX,λa m b n e=>by simp at n;subst n;subst e;exact C g x hx m⟩
 .intro j u a o E m p;rcases ae4.1 p with h|h
  .exact E (I.rf j u g x a o hx m h)
  simp at h;subst h;exact C j u o m
 intro j u a o m;have old:∀(r:Nat) (p:bI),w.gs[r]?=p->a∈p.OK->∃(i:Nat) (v:bI) (s:Int),a=i/\(w.gs.set g {x with OK:=x.OK++[(z:Int)]})[i]?=v/\aW v/\0<=v.aN/\w.ax[i]?=some (s,false)/\(v.ae=14->s=1):=by intro r p Q A;obtain⟨i,v,s,T,U,W,X,Y,Z⟩:=I.jn r p a Q A;grind [gd]
 rcases cX hx o with⟨h1,R⟩|⟨E,hu2⟩
 .subst R;rcases ae4.1 m with h|h
  .exact old g x hx h
  simp at h;subst h;exact⟨z,y,s,ii,by show(w.gs.set g _)[z]?=_;rw[gd M];exact q,B,H,n,J⟩
 exact old j u hu2 m
end
end
section
variable{w:Wd}{s:Nat}{x y:bI}
theorem eQ(a:Nat):nat? (a:Int)=a:=by unfold nat?;simp
section
variable(hx:w.gs[n]?=x)(hs:w.ah[s]?=sd)(hz:sd.g=z)(hy:w.gs[z]?=y)(cM:z≠n)
include hx hs hz hy cM
theorem mZ(a:x.OK.length<1000000)(d:Bool):Mach.serve w n s d=((w.cJ s {sd with done:=d}).ay z {y with aN:=s}).ay n {x with OK:=x.OK++[(z:Int)],br:= -1}:=by
 unfold Mach.serve;simp only[hx,hs,hz,eQ,hy,bW,eN];rw[aE oX]
theorem Kp:Mach.pair w n s=(w.ay n {x with lQ:=x.t,bF:=z}).ay z {y with lQ:=x.t,bF:=n,fire:=sd.case}:=by
 unfold Mach.pair;simp only[hx,hs,hz,eQ,hy,bW,eN];rw[aE oX]
end
theorem sR{w:Wd}(h:cp≠b)(x y:bI):(w.ay cp x).ay b y=(w.ay b y).ay cp x:=by
 grind [Wd.ay,List.set_comm]
theorem cY(w:Wd)(a:Nat)(x y:bI):(w.ay a x).ay a y=w.ay a y:=by
 grind [Wd.ay,List.set_set]
theorem mH(b:w.gs[n]?=x)(a:bI):(w.ay n a).gs[n]?=a:=di _ b
theorem be2(h:b≠n):(w.ay n e).gs[b]?=w.gs[b]?:=gd h
section
variable(I:Inv w N)
include I
theorem Inv.OX(d:w.gs[n]?=x)(o:x.ae=16\/x.ae=22\/x.ae=30/\x.res.aJ=1)(e:¬aW x)(a:w.gs[z]?=y)(c:aW y)(f:y.aN= -1)(p:∀(j:Nat) u (i:Nat) b,w.gs[j]?=some u->aT u->u.br=i->w.ah[i]?=some b->b.g≠z)(q:w.ah[s]?=sd)(r:sd.cK)(t:sd.g=z)(v:eP y s sd)(A:y.fire=sd.case)(B:(aP y).ai=9->y.aR)(C:∀(k:Nat) l,N[k]?=some l->s ∉ l):Inv ((w.ay z {y with aN:=s}).ay n {x with OK:=x.OK++[(z:Int)]}) N/\bK w ((w.ay z {y with aN:=s}).ay n {x with OK:=x.OK++[(z:Int)]}):=by
 have D:z≠n:=by rintro rfl;rw[d]at a;cases a;exact e c
 obtain⟨F,G⟩:=I.Wo a c f;obtain⟨H,J⟩:=I.Wp a c f p q r t v A B C
 obtain⟨K,L⟩:=H.Wq (g:=n) (z:=z) (x:=x) (y:={y with aN:=s}) (by rw[be2 (dE D)];exact d) o e (mH a _) c ci9 F (λj u m=>by
  by_cases M:j=z
  .grind [mH]
  rw[be2 M]at m;exact G j u m)
 exact⟨K,J.trans L⟩
theorem Inv.sj(c:w.gs[n]?=x):x.OK.length<=8:=by
 have h:=jy 8 (x.OK.map Int.toNat) ?_ ?_
 .grind
 .refine ak0.2 ((I.pg n x c).imp_of_mem λd f k e=>k ?_);obtain⟨i,_,_,l,_⟩:=I.jn n x _ c d;obtain⟨j,_,_,m,_⟩:=I.jn n x _ c f;omega
 intro a d;obtain⟨b,f,rfl⟩:=ak3.1 d;obtain⟨i,y,_,l,m,_⟩:=I.jn n x _ c f;grind [n8]
theorem vS(b:n<w.gs)(c:1<=Y/\Y<=w.au):∃h,w.aq[(Y-1).toNat]?=some h/\ax8 w.aq (Y-1) n=if h= -1 then(w.aq.set (Y-1).toNat n,true)else(w.aq,false):=by
 obtain⟨h,a⟩:∃h,w.aq[(Y-1).toNat]?=some h:=⟨_,fv (by have:=I.aq;omega)⟩;refine⟨h,a,?_⟩;unfold ax8 idx;simp_all
theorem Fv(b:w.gs[n]?=x)(f:1<=Y/\Y<=w.au)(c:aL x Y):w.aq[(Y-1).toNat]?=(n:Int)/\oB w.aq (Y-1) n=(w.aq.set (Y-1).toNat (-1),true):=by
 obtain⟨h,a⟩:∃h,w.aq[(Y-1).toNat]?=some h:=⟨_,fv (by have:=I.aq;omega)⟩;have e:(((Y-1).toNat:Int)+1)=Y:=oX
 have d:=((I.lock _ _ a).2.2 n x b).1 (by rw[e];exact c);subst d;refine⟨a,?_⟩;unfold oB idx;simp_all
end
section
variable(I:Inv w N)(hx:w.gs[n]?=x)(hs:Na w n)(M:lH x e)(p:(e.ae=14->x.ae=14)/\e.ae≠19)(hL:Loc w.au e)(hc:1<=Y/\Y<=w.au)
include I hx hs M p hL hc
theorem Inv.XK(b:∀d,aL e d↔aL x d\/d=Y)(f:e.ops=x.ops)(i:w.aq[(Y-1).toNat]?=some (-1)):Inv (({w with aq:=w.aq.set (Y-1).toNat n}:Wd).ay n e) N/\bK w (({w with aq:=w.aq.set (Y-1).toNat n}:Wd).ay n e):=by
 refine⟨I.frame hx hs M p.1 p.2 hL ii ii ii I.au ii cs4 (I.lock.acquire hx i (λd=>?_)) ii ii ii,dW hx f,ii,ii,ii,ii,ii⟩;have a:(((Y-1).toNat:Int)+1)=Y:=oX
 rw[a];exact b d
theorem Inv.rel(b:∀d,aL e d↔aL x d/\d≠Y)(f:e.ops=x.ops)(i:aL x Y):free w (Y-1) n={w with aq:=w.aq.set (Y-1).toNat (-1)}/\Inv (({w with aq:=w.aq.set (Y-1).toNat (-1)}:Wd).ay n e) N/\bK w (({w with aq:=w.aq.set (Y-1).toNat (-1)}:Wd).ay n e):=by
 obtain⟨f1,f2⟩:=Fv I hx hc i;refine⟨by unfold Mach.free;rw[f2],I.frame hx hs M p.1 p.2 hL ii ii ii I.au ii cs4 (I.lock.release hx f1 (λd=>?_)) ii ii ii,dW hx f,ii,ii,ii,ii,ii⟩;have a:(((Y-1).toNat:Int)+1)=Y:=oX
 rw[a];exact b d
end
end
section
variable{w:Wd}{g:Nat}{x:bI}{C:Nat}
theorem M.s4a(L:Loc C x)(a:2<=(aP x).ai/\(aP x).ai<=5)(hp:x.ae=4):lH x {x with ae:=5}/\Loc C {x with ae:=5}/\∀c,aL {x with ae:=5} c↔aL x c\/c=(aP x).ch:=by
 have e:aP {x with ae:=5}=aP x:=rfl;exact bZ0
theorem M.s4b(L:Loc C x)(a:(aP x).ai=6)(hp:x.ae=4):lH x {x with ae:=21}/\Loc C {x with ae:=21}/\∀c,aL {x with ae:=21} c↔aL x c\/c=(aP x).ch:=by
 have e:aP {x with ae:=21}=aP x:=rfl;exact bZ0
theorem M.s12(L:Loc C x)(a:(aP x).ai=2\/(aP x).ai=3)(hp:x.ae=12):lH x {x with ae:=13}/\Loc C {x with ae:=13}/\∀c,aL {x with ae:=13} c↔aL x c/\c≠(aP x).ch:=by
 have e:aP {x with ae:=13}=aP x:=rfl;exact bZ0
section
variable(L:Loc C x)(hk:2<=(aP x).ai/\(aP x).ai<=6)(hp:x.ae=16)
include L hk hp
theorem M.ap2(a:x.OK≠[]):lH x {x with ae:=17}/\Loc C {x with ae:=17}/\∀c,aL {x with ae:=17} c↔aL x c/\c≠(aP x).ch:=by
 have e:aP {x with ae:=17}=aP x:=rfl;exact bZ0
theorem M.ap3(a:x.OK=[]):lH x {x with ae:=18}/\Loc C {x with ae:=18}/\∀c,aL {x with ae:=18} c↔aL x c/\c≠(aP x).ch:=by
 have e:aP {x with ae:=18}=aP x:=rfl;exact bZ0
end
theorem OY(I:Inv w N)(hx:w.gs[g]?=x)(i:Na w g)(o:2<=(aP x).ai/\(aP x).ai<=6)(j:x.ae=4):∃t,Mach.lock w g ((aP x).ch-1)=some t/\Inv t N/\bK w t:=by
 have L:=bT4;have a:=bT6;have m:g<w.gs.length:=um hx;obtain⟨h,k,n⟩:=vS I m a;unfold Mach.lock;rw[n];by_cases e:h= -1
 .subst e;simp only[dt,qd hx];have l:({w with aq:=w.aq.set ((aP x).ch-1).toNat g}:Wd).gs[g]?=x:=hx;by_cases b:(aP x).ai=6
  .obtain⟨c,d,f⟩:=M.s4b L b j;refine⟨_,qK l,?_⟩;simp only[b,dt];exact I.XK hx i c ⟨sX,sX⟩ d a f ii k
  obtain⟨c,d,f⟩:=M.s4a L oX j;refine⟨_,qK l,?_⟩;simp only[b,dF];exact I.XK hx i c ⟨sX,sX⟩ d a f ii k
 simp only[aE e,nW,dF];exact⟨w,ii,I,bK.refl w⟩
theorem IC(a:w.gs[g]?=x):dk w g=w.ay g {x with ae:=if x.OK=[]then 18 else 17}:=qK a
section
variable(I:Inv w N)(hx:w.gs[g]?=x)(hs:Na w g)
include I hx hs
theorem ID(d:2<=(aP x).ai/\(aP x).ai<=6)(e:x.ae=16):∃t,dk (free w ((aP x).ch-1) g) g=some t/\Inv t N/\bK w t:=by
 have L:=bT4;have hc:=bT6;have hh:aL x (aP x).ch:=cx8
 by_cases c:x.OK=[]
 .obtain⟨m1,m2,m3⟩:=M.ap3 L d e c;obtain⟨a,b⟩:=bT7;refine⟨_,by rw[a];exact IC (x:=x) hx,?_⟩;rw[aF c];exact b
 obtain⟨m1,m2,m3⟩:=M.ap2 L d e c;obtain⟨a,b⟩:=bT7;refine⟨_,by rw[a];exact IC (x:=x) hx,?_⟩;rw[aE c];exact b
theorem Fw(c:(aP x).ai=2\/(aP x).ai=3)(d:x.ae=12):Inv ((free w ((aP x).ch-1) g).ay g {x with ae:=13}) N/\bK w ((free w ((aP x).ch-1) g).ay g {x with ae:=13}):=by
 have L:=bT4;have hc:=bT6;have hh:aL x (aP x).ch:=cx8
 obtain⟨m1,m2,m3⟩:=M.s12 L c d;obtain⟨a,b⟩:=bT7;rw[a];exact b
end
end
section
variable{g:Nat}{x:bI}
theorem FE{C:Nat}(a:(aP x).ai=9)(b:Y∈x.aq.take (bC x)):aL x Y:=by unfold aL;rw[aF a];exact b
theorem aW2(I:Inv t N)(hx:t.gs[g]?=x)(hs:Na t g)(hk:(aP x).ai=9)(p:Int)(hp:x.ae=24/\p=25\/x.ae=31/\p=32):∃E,jt t g p=some E/\Inv E N/\bK t E:=by
 have L:=bT4;obtain⟨s1,m,u⟩:=bT1;have n:=m.1 oX;have o:g<t.gs.length:=um hx;obtain⟨l,i⟩:∃l,x.aq[x.k.toNat]?=some l:=⟨_,fv oX⟩;have IF:=s1.lk l (lf i)
 have v:x.aq.length<=8:=by
  have h:=jy 9 (x.aq.map Int.toNat) ?_ ?_
  .rw[ko]at h;have:=jy 8 (x.aq.map λz=>(z-1).toNat) ?_ ?_
   .grind
   .exact cf4
   exact ch2
  .exact cf4
  exact ch2
 have q:idx x.aq x.k=some l:=by unfold idx;rw[aF n.1];exact i
 have j:kJ l=true:=by unfold kJ;simp;have:=I.c8;omega
 have r:kJ x.k=true:=co2
 obtain⟨h,h1,s⟩:=vS I o IF;unfold jt;simp only[hx,q,j,bW,eN,aH6,dF,s];by_cases e:h= -1
 .subst e;simp only[dt,aH6,dF,r];have rel:∀{c:Int},(aL x c\/x.aq[x.k.toNat]?=c)↔(aL x c\/c=l):=λ{c}=>by rw[i];simp only[oZ];exact or_congr ak1 ⟨λh=>h.symm,λh=>h.symm⟩
  by_cases f:x.k+1=x.aq.length
  .rw[aF f];rcases hp with⟨hp,rfl⟩|⟨hp,rfl⟩
   .obtain⟨m1,m2,m3⟩:=M.am4 L hk hp f;exact cg2
   obtain⟨m1,m2,m3⟩:=M.am6 L hk hp f;exact cg2
  rw[aE f];rcases hp with⟨hp,rfl⟩|⟨hp,rfl⟩
  .obtain⟨m1,m2,m3⟩:=M.am3 L hk hp oX;exact cf7
  obtain⟨m1,m2,m3⟩:=M.am5 L hk hp oX;exact cf7
 simp only[aE e,nW,dt];exact⟨t,ii,I,bK.refl t⟩
end
section
variable{x:bI}{C:Nat}
section
variable(L:Loc C x)(hk:(aP x).ai=2\/(aP x).ai=3)
include L hk
theorem M.p13(hp:x.ae=13):lH x {x with ae:=14}/\Loc C {x with ae:=14}/\∀c,aL {x with ae:=14} c↔aL x c:=by
 have e:aP {x with ae:=14}=aP x:=rfl;exact bZ0
theorem M.Ng(hp:x.ae=14)(r:nP)(a:r.case= -1):Loc C {x with res:=r,aN:= -1,ae:=15}/\∀c,aL {x with res:=r,aN:= -1,ae:=15} c↔aL x c:=by
 have e:aP {x with res:=r,aN:= -1,ae:=15}=aP x:=rfl;exact ci1
theorem M.Ip(hp:x.ae=15):Loc C {x with bY:= -1,ae:=18}/\∀c,aL {x with bY:= -1,ae:=18} c↔aL x c:=by
 have e:aP {x with bY:= -1,ae:=18}=aP x:=rfl;exact ci1
end
section
variable(L:Loc C x)(hk:2<=(aP x).ai/\(aP x).ai<=6\/(aP x).ai=9)(hp:x.ae=17)
include L hk hp
theorem M.ao2(l:ce)(a:l≠[]):Loc C {x with OK:=l,ae:=17}/\∀c,aL {x with OK:=l,ae:=17} c↔aL x c:=by
 have e:aP {x with OK:=l,ae:=17}=aP x:=rfl;obtain⟨b,d,f,i,j,k,m,o,p,q,r,s,u,v,y,z,A,B,D,F,G,H,I,J⟩:=L;have K:cV (aP x) C {x with OK:=l,ae:=17}↔cV (aP x) C x:=ak1;refine⟨?_,?_⟩
 .exact bZ2
 grind [aL,cH,bC]
theorem M.ao3:Loc C {x with OK:=[],ae:=18}/\∀c,aL {x with OK:=[],ae:=18} c↔aL x c:=by
 have e:aP {x with OK:=[],ae:=18}=aP x:=rfl;obtain⟨a,b,d,f,i,j,k,l,m,o,p,q,r,s,u,v,y,z,A,B,D,F,G,H⟩:=L;have I:cV (aP x) C {x with OK:=[],ae:=18}↔cV (aP x) C x:=ak1;refine⟨?_,?_⟩
 .exact bZ2
 grind [aL,cH,bC]
end
section
variable(L:Loc C x)(hk:2<=(aP x).ai/\(aP x).ai<=5)
include L hk
theorem M.p6l(hp:x.ae=6)(s:Nat):Loc C {x with br:=s,ae:=7}/\∀c,aL {x with br:=s,ae:=7} c↔aL x c:=by
 have e:aP {x with br:=s,ae:=7}=aP x:=rfl;exact ci1
theorem M.p6c(hp:x.ae=6)(s:Nat)(a p q:Int):Loc C {x with br:=s,t:=a,lQ:=p,bF:=q,ae:=8}/\∀c,aL {x with br:=s,t:=a,lQ:=p,bF:=q,ae:=8} c↔aL x c:=by
 have e:aP {x with br:=s,t:=a,lQ:=p,bF:=q,ae:=8}=aP x:=rfl;exact ci1
theorem M.p7l(hp:x.ae=7):Loc C {x with br:= -1,ae:=6}/\∀c,aL {x with br:= -1,ae:=6} c↔aL x c:=by
 have e:aP {x with br:= -1,ae:=6}=aP x:=rfl;exact ci1
theorem M.p7c(hp:x.ae=7)(a p q:Int):Loc C {x with t:=a,lQ:=p,bF:=q,ae:=8}/\∀c,aL {x with t:=a,lQ:=p,bF:=q,ae:=8} c↔aL x c:=by
 have e:aP {x with t:=a,lQ:=p,bF:=q,ae:=8}=aP x:=rfl;exact ci1
theorem M.p8(hp:x.ae=8)(r:nP)(a:r.case= -1):Loc C {x with res:=r,br:= -1,ae:=16}/\∀c,aL {x with res:=r,br:= -1,ae:=16} c↔aL x c:=by
 have e:aP {x with res:=r,br:= -1,ae:=16}=aP x:=rfl;exact ci1
end
section
variable(L:Loc C x)(hk:(aP x).ai=6)
include L hk
theorem M.ao4(hp:x.ae=22)(s:Nat):Loc C {x with br:=s,ae:=23}/\∀c,aL {x with br:=s,ae:=23} c↔aL x c:=by
 have e:aP {x with br:=s,ae:=23}=aP x:=rfl;exact ci1
theorem M.ao5(hp:x.ae=22)(a:Int):Loc C {x with br:= -1,t:=a,ae:=22}/\∀c,aL {x with br:= -1,t:=a,ae:=22} c↔aL x c:=by
 have e:aP {x with br:= -1,t:=a,ae:=22}=aP x:=rfl;exact ci1
theorem M.ao6(hp:x.ae=23):Loc C {x with br:= -1,ae:=22}/\∀c,aL {x with br:= -1,ae:=22} c↔aL x c:=by
 have e:aP {x with br:= -1,ae:=22}=aP x:=rfl;exact ci1
theorem M.ao7(hp:x.ae=23)(a:Int):Loc C {x with br:= -1,t:=a,ae:=22}/\∀c,aL {x with br:= -1,t:=a,ae:=22} c↔aL x c:=by
 have e:aP {x with br:= -1,t:=a,ae:=22}=aP x:=rfl;exact ci1
end
section
variable(L:Loc C x)(hk:(aP x).ai=2\/(aP x).ai=3)
include L hk
theorem M.p10(hp:x.ae=10)(s:Nat):Loc C {x with bY:=s,ae:=11}/\∀c,aL {x with bY:=s,ae:=11} c↔aL x c:=by
 have e:aP {x with bY:=s,ae:=11}=aP x:=rfl;exact ci1
theorem M.p11(hp:x.ae=11)(a:Int):Loc C {x with bJ:=a,ae:=12}/\∀c,aL {x with bJ:=a,ae:=12} c↔aL x c:=by
 have e:aP {x with bJ:=a,ae:=12}=aP x:=rfl;exact ci1
end
section
variable(L:Loc C x)(hk:(aP x).ai=9)
include L hk
theorem M.aq0(hp:x.ae=29)(b:x.k+1<x.aH):lH x {x with k:=x.k+1}/\Loc C {x with k:=x.k+1}/\∀c,aL {x with k:=x.k+1} c↔aL x c:=by
 have e:aP {x with k:=x.k+1}=aP x:=rfl;obtain⟨s1,s2,s3⟩:=bT1;obtain⟨cP,ja,fX⟩:=bK8;have a:0<x.aq.length:=pd cP;have d:0<x.aH.length:=pd ja;have f:=bT2
 have nL:gU C {x with k:=x.k+1}/\Ej {x with k:=x.k+1}/\nm {x with k:=x.k+1}:=by
  exact bZ3
 have dJ:∀c,aL {x with k:=x.k+1} c↔aL x c:=by
  exact ce0
 have i:cV (aP x) C {x with k:=x.k+1}↔cV (aP x) C x:=ak1;exact ci3
theorem M.aq1(hp:x.ae=29)(a:Int):lH x {x with bJ:=a,k:=x.aq,ae:=30}/\Loc C {x with bJ:=a,k:=x.aq,ae:=30}/\∀c,aL {x with bJ:=a,k:=x.aq,ae:=30} c↔aL x c:=by
 have e:aP {x with bJ:=a,k:=x.aq.length,ae:=30}=aP x:=rfl;obtain⟨s1,s2,s3⟩:=bT1;obtain⟨cP,ja,fX⟩:=bK8;have d:0<x.aq.length:=pd cP;have K:0<x.aH.length:=pd ja;have Q:=bT2;have R:=L.BE hk oX
 have f:gU C {x with bJ:=a,k:=x.aq.length,ae:=30}/\Ej {x with bJ:=a,k:=x.aq.length,ae:=30}/\nm {x with bJ:=a,k:=x.aq.length,ae:=30}:=by
  exact bZ3
 have b:∀c,aL {x with bJ:=a,k:=x.aq.length,ae:=30} c↔aL x c:=by
  intro c;unfold aL;rw[e,aF hk,aF hk];have i:bC x=x.aq.length:=cl8
  have j:bC {x with bJ:=a,k:=x.aq.length,ae:=30}=x.aq.length:=cl8
  rw[i,j]
 have S:cV (aP x) C {x with bJ:=a,k:=x.aq.length,ae:=30}↔cV (aP x) C x:=ak1;obtain⟨l,m,o,p,q,r,s,u,v,y,z,A,B,D,T,U,F,W,G,X,Y,H,I,J⟩:=L;clear u fX;refine⟨?_,?_,b⟩
 .clear l m o p q r s v y z A B D F G H I J f b s1 s3;exact bZ4
 clear b s1 s3 s2;exact bZ2
theorem M.aq2(hp:x.ae=32)(b:x.k+1<x.aH):Loc C {x with k:=x.k+1}/\∀c,aL {x with k:=x.k+1} c↔aL x c:=by
 have e:aP {x with k:=x.k+1}=aP x:=rfl;obtain⟨s1,s2,s3⟩:=bT1;obtain⟨cP,ja,fX⟩:=bK8;have a:0<x.aq.length:=pd cP;have d:0<x.aH.length:=pd ja;have f:=bT2
 have i:gU C {x with k:=x.k+1}/\Ej {x with k:=x.k+1}/\nm {x with k:=x.k+1}:=by
  exact bZ3
 have dJ:∀c,aL {x with k:=x.k+1} c↔aL x c:=by
  exact ce0
 have j:cV (aP x) C {x with k:=x.k+1}↔cV (aP x) C x:=ak1;exact ci2
theorem M.aq3(hp:x.ae=32):Loc C {x with k:=x.aq,ae:=33}/\∀c,aL {x with k:=x.aq,ae:=33} c↔aL x c:=by
 have e:aP {x with k:=x.aq.length,ae:=33}=aP x:=rfl;obtain⟨s1,s2,s3⟩:=bT1;obtain⟨cP,ja,fX⟩:=bK8;have a:0<x.aq.length:=pd cP;have f:0<x.aH.length:=pd ja;have i:=bT2
 have j:gU C {x with k:=x.aq.length,ae:=33}/\Ej {x with k:=x.aq.length,ae:=33}/\nm {x with k:=x.aq.length,ae:=33}:=by
  exact bZ3
 have dJ:∀c,aL {x with k:=x.aq.length,ae:=33} c↔aL x c:=by
  intro c;unfold aL;rw[e,aF hk,aF hk];have b:bC x=x.aq.length:=cl8
  have d:bC {x with k:=x.aq.length,ae:=33}=x.aq.length:=cl8
  rw[b,d]
 have l:cV (aP x) C {x with k:=x.aq.length,ae:=33}↔cV (aP x) C x:=ak1;exact ci2
theorem M.aq4(hp:x.ae=28)(u:x.k+1<x.aH)(i j:Nat)(hi:x.aH[x.k.toNat]?=(i:Int)):Loc C {x with bA:=x.bA.set i j,k:=x.k+1}/\∀c,aL {x with bA:=x.bA.set i j,k:=x.k+1} c↔aL x c:=by
 have e:aP {x with bA:=x.bA.set i j,k:=x.k+1}=aP x:=rfl;obtain⟨s1,s2,s3⟩:=bT1;obtain⟨b,d,fX⟩:=bK8;have f:0<x.aq.length:=pd b;have y:0<x.aH.length:=pd d;have z:=bT2
 have A:gU C {x with bA:=x.bA.set i j,k:=x.k+1}/\Ej {x with bA:=x.bA.set i j,k:=x.k+1}/\nm {x with bA:=x.bA.set i j,k:=x.k+1}:=by
  refine⟨s1.mk' ii ii ii,?_,?_⟩
  .exact bZ5
  obtain⟨B,m,D,F,G,o,p⟩:=s3;have sl:x.bA.length=(aP x).cases.length:=m oX;obtain⟨_,H,r,_⟩:=s1.ord _ (lf hi);have I:i<x.bA.length:=by have:=um r;omega
  have J:(x.k.toNat:Int)=x.k:=oX
  have Dx:=s1.nd;have K:=lf hi;have l:∀(q:Nat) (v:Int),x.aH[q]?=some v->q≠x.k.toNat->0<=v/\v.toNat≠i:=λq v hq Ky=>cx9
  clear fX b d s1 s2 L;refine⟨λh=>cn5,λ_=>cv0,λq v hq Q=>?_,λh=>cn5,λh=>cn5,λ_ q v hq a=>?_,λ_ q v hq a=>?_⟩
  .exact cg6
  .simp only at hq a ⊢;rw[oA (dE (l q v a oX).2)];exact o hp q v oX a
  simp only at hq a ⊢;by_cases Ky:q=x.k.toNat
  .grind [Int.toNat_natCast]
  rw[oA (dE (l q v a Ky).2)];exact p hp q v oX a
 have dJ:∀c,aL {x with bA:=x.bA.set i j,k:=x.k+1} c↔aL x c:=by
  intro c;unfold aL;rw[e,aF hk,aF hk];have s:bC x=x.aq.length:=cl8
  have e2:bC {x with bA:=x.bA.set i j,k:=x.k+1}=x.aq.length:=cl8
  rw[s,e2]
 have R:cV (aP x) C {x with bA:=x.bA.set i j,k:=x.k+1}↔cV (aP x) C x:=ak1;exact ci2
theorem M.aq5(hp:x.ae=28)(u:x.k+1=x.aH)(i j:Nat)(hi:x.aH[x.k.toNat]?=(i:Int)):Loc C {x with bA:=x.bA.set i j,k:=0,ae:=29}/\∀c,aL {x with bA:=x.bA.set i j,k:=0,ae:=29} c↔aL x c:=by
 have e:aP {x with bA:=x.bA.set i j,k:=0,ae:=29}=aP x:=rfl;obtain⟨s1,s2,s3⟩:=bT1;obtain⟨d,f,fX⟩:=bK8;have l:0<x.aq.length:=pd d;have y:0<x.aH.length:=pd f;have z:=bT2
 have A:gU C {x with bA:=x.bA.set i j,k:=0,ae:=29}/\Ej {x with bA:=x.bA.set i j,k:=0,ae:=29}/\nm {x with bA:=x.bA.set i j,k:=0,ae:=29}:=by
  refine⟨s1.mk' ii ii ii,?_,?_⟩
  .exact bZ5
  obtain⟨B,m,D,F,G,H,o⟩:=s3;have sl:x.bA.length=(aP x).cases.length:=m oX;obtain⟨_,I,p,_⟩:=s1.ord _ (lf hi);have J:i<x.bA.length:=by have:=um p;omega
  have K:(x.k.toNat:Int)=x.k:=oX
  have Dx:=s1.nd;have Q:=lf hi;have r:∀(q:Nat) (v:Int),x.aH[q]?=some v->q≠x.k.toNat->0<=v/\v.toNat≠i:=λq v hq Ky=>cx9
  clear fX d f s1 s2 L;refine⟨λh=>ck1,λ_=>cv0,λq v hq a=>?_,λ_ v a=>?_,λh=>ck1,λh=>ck1,λh=>ck1⟩
  .exact cg6
  simp only at a ⊢;obtain⟨q,b⟩:=ae3.1 a;by_cases Ky:q=x.k.toNat
  .grind [Int.toNat_natCast]
  rw[oA (dE (r q v b Ky).2)];exact o hp q v (by have:=um b;omega) b
 have dJ:∀c,aL {x with bA:=x.bA.set i j,k:=0,ae:=29} c↔aL x c:=by
  intro c;unfold aL;rw[e,aF hk,aF hk];have s:bC x=x.aq.length:=cl8
  have e2:bC {x with bA:=x.bA.set i j,k:=0,ae:=29}=x.aq.length:=cl8
  rw[s,e2]
 have R:cV (aP x) C {x with bA:=x.bA.set i j,k:=0,ae:=29}↔cV (aP x) C x:=ak1;exact ci2
theorem M.aq6(hp:x.ae=34)(o:x.k+1<x.aH)(i:Nat)(hi:x.aH[x.k.toNat]?=(i:Int)):Loc C {x with bA:=x.bA.set i (-1),k:=x.k+1}/\∀c,aL {x with bA:=x.bA.set i (-1),k:=x.k+1} c↔aL x c:=by
 have e:aP {x with bA:=x.bA.set i (-1),k:=x.k+1}=aP x:=rfl;obtain⟨s1,s2,s3⟩:=bT1;obtain⟨a,b,fX⟩:=bK8;have d:0<x.aq.length:=pd a;have p:0<x.aH.length:=pd b;have r:=bT2
 have s:gU C {x with bA:=x.bA.set i (-1),k:=x.k+1}/\Ej {x with bA:=x.bA.set i (-1),k:=x.k+1}/\nm {x with bA:=x.bA.set i (-1),k:=x.k+1}:=by
  refine⟨s1.mk' ii ii ii,?_,?_⟩
  .exact bZ5
  obtain⟨u,f,y,z,A,B,D⟩:=s3;have sl:x.bA.length=(aP x).cases.length:=f oX;obtain⟨_,F,j,_⟩:=s1.ord _ (lf hi);have G:i<x.bA.length:=by have:=um j;omega
  have H:(x.k.toNat:Int)=x.k:=oX
  have Dx:=s1.nd;have I:=lf hi;have J:∀(q:Nat) (v:Int),x.aH[q]?=some v->q≠x.k.toNat->0<=v/\v.toNat≠i:=λq v hq Ky=>cx9
  clear fX a b s1 s2 L;refine⟨λh=>cn5,λ_=>cv0,λq v hq K=>?_,λh=>cn5,λ_ q v hq l=>?_,λh=>cn5,λh=>cn5⟩
  .exact cg6
  simp only at hq l ⊢;by_cases Ky:q=x.k.toNat
  .grind [Int.toNat_natCast]
  grind
 have dJ:∀c,aL {x with bA:=x.bA.set i (-1),k:=x.k+1} c↔aL x c:=by
  intro c;unfold aL;rw[e,aF hk,aF hk];have m:bC x=0:=cl8
  have e2:bC {x with bA:=x.bA.set i (-1),k:=x.k+1}=0:=cl8
  rw[m,e2]
 have Q:cV (aP x) C {x with bA:=x.bA.set i (-1),k:=x.k+1}↔cV (aP x) C x:=ak1;exact ci2
theorem M.aq7(hp:x.ae=34):Loc C {x with k:=0,bA:=[],ae:=18}/\∀c,aL {x with k:=0,bA:=[],ae:=18} c↔aL x c:=by
 have e:aP {x with k:=0,bA:=[],ae:=18}=aP x:=rfl;obtain⟨s1,s2,s3⟩:=bT1;obtain⟨b,d,fX⟩:=bK8;have a:0<x.aq.length:=pd b;have f:0<x.aH.length:=pd d;have i:=bT2;have dJ:∀c,aL {x with k:=0,bA:=[],ae:=18} c↔aL x c:=by intro c;unfold aL;rw[e,aF hk,aF hk];grind [bC]
 have j:cV (aP x) C {x with k:=0,bA:=[],ae:=18}↔cV (aP x) C x:=ak1;exact ci2
end
end
end V
open Go.RowKit
section
variable{af j:Nat}{m0:Mem}{r:bH}{v:Value}
theorem At.aa5(A:At af G m0 w2 Q u t){c:Nat}{a:TypeId}(C:r.loose)(D:eI r=none)(x:aj Q t r=[])(E:u.heap[b]?=some (.cells us a (0,0)))(g:af<=b)(y:∀d,Q.aV d≠b)(H:w2<=b)(z:∀d,aj (Q.eG r b c) t d=aj Q t d):At af G m0 w2 (Q.eG r b c) u t:=by
 refine⟨⟨A.mv.os,A.mv.tape,A.mv.output,A.mv.size,A.mv.keep,λd l f=>?_⟩,⟨λq s l i k=>?_,λd l f=>?_,λd B=>?_,A.bj.aB.eG C _ _⟩⟩
 .by_cases e:d=r
  .subst e;rw[Mem.dL]at f;cases f;exact .inr H
  rw[Mem.bN e]at f;exact A.mv.old _ _ f
 .by_cases n:q=r<;>by_cases o:s=r
  .rw[n,o]
  .subst n;rw[Mem.dL]at i;rw[Mem.bN o]at k
   cases i;exact aX k (y s)
  .subst o;rw[Mem.dL]at k;rw[Mem.bN n]at i
   cases k;exact aX i (y q)
  rw[Mem.bN n]at i;rw[Mem.bN o]at k;exact A.bj.inj q s l i k
 .rw[z];by_cases e:d=r
  .subst e;rw[Mem.dL]at f
   cases f;rw[Mem.xM,x,D];exact⟨g,us,a,E,sX,sX,λp n=>by cases n⟩
  rw[Mem.bN e]at f;rw[Mem.rH e];exact A.bj.lies d l f
 rw[z];by_cases e:d=r
 .subst e;exact x
 rw[Mem.bN e]at B;exact A.bj.none_ d B
section
variable{o:Option Nat}(hk:t.au<=cp)
include hk
theorem bc7:∀d,aj (Q.eG (.eU cp) o n) t d=aj Q t d:=by
 intro d;have f:∀r,r≠bH.eU cp->∀a,(Q.eG (.eU cp) o n).cU r a=Q.cU r a:=λr e a=>Mem.qv Q o n a e
 have g:∀r,r≠bH.eU cp->(Q.eG (.eU cp) o n).ptr r=Q.ptr r:=λr e=>Mem.sL Q o n e
 cases d with
 |au=>
  grind [aj,List.map_congr_left]
 |_=>first
  |rfl
  |(simp only[aj,gk,Cu,je,g _ (show _≠bH.eU cp by simp),f _ (show _≠bH.eU cp by simp),ne_eq,reduceCtorEq,as2];done)
theorem ue:∀d,aj (Q.eG (.pl0 cp) o n) t d=aj Q t d:=by
 intro d;have f:∀r,r≠bH.pl0 cp->∀a,(Q.eG (.pl0 cp) o n).cU r a=Q.cU r a:=λr e a=>Mem.qv Q o n a e
 have g:∀r,r≠bH.pl0 cp->(Q.eG (.pl0 cp) o n).ptr r=Q.ptr r:=λr e=>Mem.sL Q o n e
 cases d with
 |eU i=>
  simp only[aj]
  cases h:t.au[i]? with
  |none=>rfl
  |some r=>
   have:=um h;simp only[f (.pl0 i) ci8]
 |_=>first
  |rfl
  |(simp only[aj,gk,Cu,je,g _ (show _≠bH.pl0 cp by simp),f _ (show _≠bH.pl0 cp by simp),ne_eq,reduceCtorEq,as2];done)
end
end
open Go.Proofs.Tryz
section
variable{af:Nat}{F:Fx}{w w0:World}{m m0:Mem}{S:Wd}{L:List (Nat×Obj)}
section
variable(X:AB af F m0 w0 m w S L)
include X
theorem MA(a:Good S)(g:Nat)(b:eX Y){S':Wd}(c:jI S g Y=S'):gt 163 #[bR F,I g,Y] w (ee λw'=>AB af F m0 w0 m w' S' L):=
 (FK X.bj a g Y b S' c).mono λe w' ⟨d,f⟩=>⟨d,X.av f⟩
theorem Qm(d:Good S)(g:Nat)(f:g<S.gs){o:cu}(h:eX o.ch)(a:am)(b c:Nat){S':Wd}(i:jZ S g o=S'):gt 166 #[bR F,I g,.agg #[o.ai,o.ch,o.n,o.v,(a,b,c),o.dG]] w (ee λw'=>AB af F m0 w0 m w' S' L):=
 (IE X.bj d g f o h a b c S' i).mono λe w' ⟨j,k⟩=>⟨j,X.av k⟩
theorem Gk(a:Good S)(b:eX Y){s:Nat}{S2:Wd}{v:Int}(c:ik S Y s=(S2,v)):gt 165 #[bR F,Y,I s] w (eL v λw'=>AB af F m0 w0 m w' S2 L):=
 (IH X.bj a Y b s S2 v c).mono λe w' ⟨d,f⟩=>⟨d,X.av f⟩
theorem bd5(a:eX Y):gt 164 #[Y] w (eL (I (2*Y-1)) λw'=>AB af F m0 w0 m w' S L):=
 (tp Y a w).mono λe w' ⟨b,c⟩=>⟨b,c▸X⟩
end
theorem Good.ef(h:Good S)(q:er):Good {S with ef:=q}:=⟨h.Eg,h.aC,h.au,h.OK,h.nA⟩
theorem Good.fZ(h:Good S){x:Int}{S':Wd}(a:fZ S x=S'):Good S':=by
 grind [mF,ef]
section
variable(R:bz af F w m S)(aG:Good S)(g:Nat)(x:bI)(hx:S.gs[g]?=x)(o:cu)(bO:eX o.ch)(ca:am)(cn cc:Nat)
include R aG g x hx o bO ca cn cc
theorem MB(a:x.ae=5)(S':Wd)(b:jI S g o.ch=S'):gt 107 #[bR F,I g,.agg #[o.ai,o.ch,o.n,o.v,(ca,cn,cc),o.dG]] w (ee (To af F m w S')):=by
 obtain⟨k,c3,l,p,c⟩:=bK1;obtain⟨q,r,s,t⟩:=R.pB;rw[a]at c;have d:=bT8;obtain⟨u,f⟩:=dA hx aG;have i:=ag b;clear R hx a aG b;unfold bR;go_enter func107,ntmps107;go_wp2_with (go_at_call 163;refine(MA d f g bO i).mono ?_;rintro e y ⟨rfl,X⟩;have j:=bP7;clear X);go_end0;exact⟨ii,ss j⟩
theorem MC(a:x.ae=7)(S':Wd)(b:rD S g 6 8=S'):gt 107 #[bR F,I g,.agg #[o.ai,o.ch,o.n,o.v,(ca,cn,cc),o.dG]] w (ee (To af F m w S')):=by
 obtain⟨j,c3,k,l,c⟩:=bK1;obtain⟨p,q,r,s⟩:=R.pB;rw[a]at c;have d:=bT8;obtain⟨t,u⟩:=dA hx aG;have f:=ag b;clear R hx a aG b;unfold bR;go_enter func107,ntmps107;go_wp2_with (go_at_call 99;refine(PS d f).mono ?_;rintro e y ⟨rfl,X⟩;have i:=bP7;clear X);go_end0;exact⟨ii,ss i⟩
theorem MD(a:x.ae=9)(S':Wd)(b:jZ S g o=S'):gt 107 #[bR F,I g,.agg #[o.ai,o.ch,o.n,o.v,(ca,cn,cc),o.dG]] w (ee (To af F m w S')):=by
 obtain⟨c,c3,l,p,d⟩:=bK1;obtain⟨q,r,s,t⟩:=R.pB;rw[a]at d;have f:=bT8;obtain⟨u,i⟩:=dA hx aG;have j:=ag b;clear R hx a aG b;unfold bR;go_enter func107,ntmps107;go_wp2_with (go_at_call 166;refine(Qm f i g c bO ca cn cc j).mono ?_;rintro e y ⟨rfl,X⟩;have k:=bP7;clear X);go_end0;exact⟨ii,ss k⟩
theorem Jm(a:x.ae=6)(S':Wd)(b:Mach.take S g (2*o.ch-1) 7 8=(S',true)):gt 107 #[bR F,I g,.agg #[o.ai,o.ch,o.n,o.v,(ca,cn,cc),o.dG]] w (ee (To af F m w S')):=by
 obtain⟨l,c3,p,q,c⟩:=bK1;obtain⟨r,s,t,u⟩:=R.pB;rw[a]at c;have d:=bT8;obtain⟨y,z⟩:=dA hx aG;have f:=ag b;clear R hx a aG b;unfold bR;go_enter func107,ntmps107;go_wp2_with (first|(go_at_call 164;refine(bd5 d bO).mono ?_;rintro e i ⟨rfl,X⟩;have j:=bP7;clear X)|(go_at_call 96;refine(aY3 j f).mono ?_;rintro e i ⟨rfl,X⟩;have k:=bP7;clear X));go_end0;exact⟨ii,ss k⟩
theorem Jn(b:x.ae=6)(S2:Wd)(a:bI)(c:Mach.take S g (2*o.ch-1) 7 8=(S2,false))(d:S2.gs[g]?=a):gt 107 #[bR F,I g,.agg #[o.ai,o.ch,o.n,o.v,(ca,cn,cc),o.dG]] w (ee λw'=>To af F m w (S2.ay g {a with ae:=9}) w'):=by
 obtain⟨t,c3,u,y,j⟩:=bK1;obtain⟨z,A,C,D⟩:=R.pB;rw[b]at j;have k:=bT8;obtain⟨E,G⟩:=dA hx aG;obtain⟨l,f⟩:=dA c d;clear R hx b aG c d;unfold bR;go_enter func107,ntmps107;go_wp2_with (first|(go_at_call 164;refine(bd5 k bO).mono ?_;rintro e p ⟨rfl,X⟩;have r:=bP7;clear X)|(go_at_call 96;refine(aY3 r l).mono ?_;rintro e p ⟨rfl,X⟩;have RN:=bP5;have H:=RN.g f 2 _ ii;have J:=bR8;have i:=X.at_;have A1:=i.g f {a with ae:=9} (q:=2) (v:=I 9);have s:=bO7;clear A1;clear i;have K:=bP7;clear X RN));go_end0;exact⟨ii,m,s⟩
theorem ME(k:x.ae=8)(s:Nat)(l:x.br=s)(S2 b c:Wd)(v:Int)(d:bI)(f:fZ S s=S2)(p:ik S2 o.ch s=(b,v))(r:Mach.serve b g s true=c)(t:c.gs[g]?=d):gt 107 #[bR F,I g,.agg #[o.ai,o.ch,o.n,o.v,(ca,cn,cc),o.dG]] w (ee λw'=>To af F m w (c.ay g {d with res:={aJ:=1,case:= -1,v:=v,ok:=true},ae:=16}) w'):=by
 obtain⟨O,c3,T,A,C⟩:=bK1;obtain⟨U,W,Y,Z⟩:=R.pB;rw[k]at C;have D:=bT8;obtain⟨HG,ie⟩:=dA hx aG;rw[l]at A;obtain⟨E,G,H,a⟩:=ia f p r t;have i:=ag (aG.fZ f);clear R hx k aG f p r t l;unfold bR;go_enter func107,ntmps107;go_wp2_with (first|(go_at_call 150;refine(bb7 D E).mono ?_;rintro e u ⟨⟨bb,rfl⟩,X⟩;obtain⟨q0,q1,q2,q3,q4,q5⟩:=bR6;have J:=bP7;clear X)|(go_at_call 165;refine(Gk (S:=S2) J i bO G).mono ?_;rintro e u ⟨rfl,X⟩;have K:=bP7;clear X)|(go_at_call 152;refine(vj (S:=b) K H).mono ?_;rintro e u ⟨rfl,M,X⟩;have RN:=bP5;have p2:=RN.g a 2 _ ii;obtain⟨wW,Dm,Fz,FA,FC,FD⟩:=bJ9;have Ip:=RN.g a 15 _ ii;have UZ:=RN.g a 16 _ ii;have U0:=RN.g a 17 _ ii;have FB:=RN.g a 18 _ ii;have Bo:=RN.g a 19 _ ii;have y:=X.at_;have z:=y.res a {aJ:=1,case:= -1,v:=v,ok:=true};have j:=z.g (az a) {d with res:={aJ:=1,case:= -1,v:=v,ok:=true},ae:=16} (q:=2) (v:=I 16);rw[aA]at j;have N:=ag j;clear z j;clear y;have HZ:=bP7;clear X RN));go_end0;exact⟨ii,M,N⟩
theorem DV(k:x.ae=5\/x.ae=6\/x.ae=7\/x.ae=8\/x.ae=9)(S':Wd)(a:iE S g o=S'):gt 107 #[F.aQ,I g,.agg #[o.ai,o.ch,o.n,o.v,(ca,cn,cc),o.dG]] w (ee (To af F m w S')):=by
 unfold iE at a;simp only[bW,hx,eN]at a;by_cases b:x.ae=5
 .rw[aF b]at a;exact MB R aG g x hx o bO ca cn cc b _ a
 rw[aE b]at a;by_cases d:x.ae=6
 .rw[aF d]at a;simp only[cI]at a;obtain⟨⟨S2,c⟩,i,a⟩:=a
  cases c with
  |true=>
   simp only[dt,oZ]at a;grind [Jm]
  |false=>
   simp only[nW,dF]at a;grind [Nb,Jn]
 rw[aE d]at a;by_cases c:x.ae=7
 .rw[aF c]at a;exact MC R aG g x hx o bO ca cn cc c _ a
 rw[aE c]at a;by_cases e:x.ae=8
 .rw[aF e]at a;unfold pZ fL at a;simp only[bW,hx,eN,cI]at a;obtain⟨s,l,S2,i,⟨p,v⟩,q,j,r,a⟩:=a
  cases f:j.gs[g]? with
  |none=>simp[f]at a
  |some t=>
   simp only[f,km,oZ]at a;subst a;grind [ME,du]
 rw[aE e]at a;exact MD R aG g x hx o bO ca cn cc oX _ a
end
end
theorem AV(c:am)(d e:Nat)(w:World):gt 45 #[(c,d,e),I 0] w (eL (.agg (NC c d e)) (Below w w)):=by
 go_enter func45,ntmps45;go_upto_region 1 with fail
 obtain⟨Z,g⟩:∃Z:dl,Z=#[Value.slice none 0 0,I 0,I 0,I 0,B false,I 0,B false,I 0,I 0,I 0,I 0,I 0,I 0,I 0,I 0,I 0,I 0,I 0,B false,I 0,Value.slice none 0 0,Value.slice none 0 0,Value.slice none 0 0,Value.slice none 0 0,I 0]:=⟨_,ii⟩;obtain⟨k,f⟩:∃b,b=w.heap.size:=⟨_,ii⟩;obtain⟨l,a⟩:∃W,W=w.alloc (.cells Z 100):=⟨_,ii⟩;have m:Z.size=25:=by rw[g];rfl
 rw[<-g,<-f,<-a];have n:l.heap[k]?=some (.cells Z 100 (0,0)):=by rw[a,f];exact dP
 have o:Below w w l:=by rw[a];exact(fp).alloc cG _
 obtain⟨i,p,s⟩:=ij n m o;have t:=ag (at4 f.symm);clear g a f n m o;go_wp2_with (refine JS ii 100 (.tmp 4) (.tmp 8) ii k 0 (NC c d e) ii ii (by rw[cQ.2];rfl) (λj q=>by rw[cr i.out,wl,xL (by rw[p.out];exact q)];rfl) (λj q=>iM _ _ _ i) cj0 ?_);have r:=dI (cs:=(NC c d e)) i (by rw[p.out];rfl);refine bj2 ii ii r cQ ?_;grind [Below.setCells,Hid.out]
inductive RK|st|gs|ca|su|cf|rs deriving DecidableEq
def bp9:RK->Option (Nat×Nat)
 | .gs=>some (100,25)
 | .ca=>some (28,1)
 | .su=>some (105,7)
 | .rs=>some (41,12)
 |_=>none
def iy(i:Nat)(j wr:World)(k l m:Nat)(x y:Int)(D c d e:Value)(f g h:Nat):Prop:=
 ∃a cap b,cN i j wr a bp9 cap b/\a .st=k/\a .cf=l/\(a .rs=m/\cap .rs=1)/\b .cf=[I x,y]/\(b .rs).length=12/\
  b .st=[I x,y,I 0,c,(),d,e,(),I 0,D,I 0,()]/\
  c=nG (a .gs) f (cap .gs)/\d=nG (a .su) g (cap .su)/\e=nG (a .ca) h (cap .ca)/\(b .gs).length=f*25/\(b .su).length=g*7/\(b .ca).length=h*1
section
variable{lo:Nat}{w0 wr:World}{sb cb rb:Nat}{x y:Int}{D vg vs vc:Value}{ng ns:Nat}
theorem iy.eC(H:iy lo w0 wr sb cb rb x y D vg vs vc ng ns n)(a:Below wr wr w'):iy lo w0 w' sb cb rb x y D vg vs vc ng ns n:=by
 obtain⟨b,cap,c,O,h⟩:=H;exact⟨b,cap,c,O.eC a,h⟩
theorem iy.alloc(H:iy lo w0 wr sb cb rb x y D vg vs vc ng ns n)(o:Obj):iy lo w0 (wr.alloc o) sb cb rb x y D vg vs vc ng ns n:=H.eC ((fp).alloc cG o)
section
variable(H:iy lo w0 wr sb cb rb x y D vg vs vc ng ns n)
include H
theorem iy.uw:Below lo w0 wr/\lo<=wr:=by
 obtain⟨a,cap,b,O,h⟩:=H;exact⟨O.below,O.tL⟩
theorem iy.cells:(∀(j:Nat) v,[I x,y,I 0,vg,(),vs,vc,(),I 0,D,I 0,()][j]?=some v->wr.cell? (sb,j)=v)/\(∀(j:Nat),wr.frozen? (sb,j)=false)/\sb<wr/\wr.cell? cb=I x/\wr.cell? (cb,1)=I y/\cb<wr:=by
 obtain⟨f,cap,g,O,a,b,h,c,i,d,k⟩:=H;exact⟨λj v e=>O.cell a (by rw[d];exact e),λj=>O.frozen a j,O.lt a,O.cell b (by rw[c];rfl),O.cell b (by rw[c];rfl),O.lt b⟩
theorem iy.res:(∃Z t,Z.size=12/\wr.heap[rb]?=some (.cells Z t (0,0)))/\lo<=rb:=by
 obtain⟨f,cap,g,O,h,i,b,j,k,l,m⟩:=H;obtain⟨c,a,t,d,o,p,e⟩:=O.lies _ _ b.1;exact⟨⟨a,t,by have:=(e _ ii).2.1;rw[b.2]at this;exact this,d⟩,c⟩
end
theorem IK{a:RK->Option Nat}{cap:RK->Nat}{c:RK->bi}(O:cN lo w0 wr a bp9 cap c){r:RK}(d:r≠ .st)(f:a .st=sb):(nG (a r) b (cap r)).ownBlock≠sb:=λe=>by
 rw[mJ]at e;exact d (O.inj _ _ _ e f)
theorem iy.gs(H:iy lo w0 wr sb cb rb x y D vg vs vc ng ns n):∃e,wr.ownsRow lo 100 25 vg ng e/\vg.ownBlock≠sb/\(e=ng*25)/\(∀(w':World) (g c:Nat) (a:bi),a.length=25->(wr.alloc (.cells a.toArray 100)).grownBy w' vg.ownBlock->w'.ownsRow lo 100 25 (g,ng+1,c) (ng+1) (e++a)->(vg.ownBlock=g\/(wr.alloc (.cells a.toArray 100)).heap.size<=g)->iy lo w0 (w'.setCell (sb,3) (g,ng+1,c)) sb cb rb x y D (g,ng+1,c) vs vc (ng+1) ns n):=by
 obtain⟨F,cap,o,O,f,s,t,u,w,z,rfl,rfl,rfl,i,A,B⟩:=H;refine⟨o .gs,O.owns (k:=.gs) (p:=(100,25)) ii dX i,IK O sX f,i,λw' g c a C l d m=>?_⟩;rw[mJ]at l m;have E:=((O.alloc (.cells a.toArray 100)).row (r:=.gs) (p:=(100,25)) (λq h=>cs2) l d m).set (r:=.st) (b:=sb) (j:=3) (v:=.slice (some ⟨g,0,none⟩) (ng+1) c) (by rw[aD sX];exact f);refine⟨_,_,_,E,?_,?_,?_,?_,?_,?_,?_,?_,?_,?_,?_,?_⟩<;>simp only[up,aF,aE,reduceCtorEq,dt,dF,and_self,f,s,t,u,w,z,A,B,aU7,i,C,qr,ro]
 .simp[nG]
 omega
theorem iy.su(H:iy lo w0 wr sb cb rb x y D vg vs vc ng ns n):∃e,wr.ownsRow lo 105 7 vs ns e/\vs.ownBlock≠sb/\(e=ns*7)/\(∀(w':World) (g c:Nat) (a:bi),a.length=7->(wr.alloc (.cells a.toArray 105)).grownBy w' vs.ownBlock->w'.ownsRow lo 105 7 (g,ns+1,c) (ns+1) (e++a)->(vs.ownBlock=g\/(wr.alloc (.cells a.toArray 105)).heap.size<=g)->iy lo w0 (w'.setCell (sb,5) (g,ns+1,c)) sb cb rb x y D vg (g,ns+1,c) vc ng (ns+1) n):=by
 obtain⟨F,cap,o,O,f,s,t,u,w,z,rfl,rfl,rfl,A,i,B⟩:=H;refine⟨o .su,O.owns (k:=.su) (p:=(105,7)) ii dX i,IK O sX f,i,λw' g c a C l d m=>?_⟩;rw[mJ]at l m;have E:=((O.alloc (.cells a.toArray 105)).row (r:=.su) (p:=(105,7)) (λq h=>cs2) l d m).set (r:=.st) (b:=sb) (j:=5) (v:=.slice (some ⟨g,0,none⟩) (ns+1) c) (by rw[aD sX];exact f);refine⟨_,_,_,E,?_,?_,?_,?_,?_,?_,?_,?_,?_,?_,?_,?_⟩<;>simp only[up,aF,aE,reduceCtorEq,dt,dF,and_self,f,s,t,u,w,z,A,B,aU7,i,C,qr,ro]
 .simp[nG]
 omega
theorem iy.ca(H:iy lo w0 wr sb cb rb x y D vg vs vc ng ns n):∃e,wr.ownsRow lo 28 1 vc n e/\vc.ownBlock≠sb/\(e=n*1)/\(∀(w':World) (g c:Nat) (a:bi),a.length=1->(wr.alloc (.cells a.toArray 28)).grownBy w' vc.ownBlock->w'.ownsRow lo 28 1 (g,n+1,c) (n+1) (e++a)->(vc.ownBlock=g\/(wr.alloc (.cells a.toArray 28)).heap.size<=g)->iy lo w0 (w'.setCell (sb,6) (g,n+1,c)) sb cb rb x y D vg vs (g,n+1,c) ng ns (n+1)):=by
 obtain⟨F,cap,o,O,f,s,t,u,w,z,rfl,rfl,rfl,A,B,i⟩:=H;refine⟨o .ca,O.owns (k:=.ca) (p:=(28,1)) ii dX i,IK O sX f,i,λw' g c a C l d m=>?_⟩;rw[mJ]at l m;have E:=((O.alloc (.cells a.toArray 28)).row (r:=.ca) (p:=(28,1)) (λq h=>cs2) l d m).set (r:=.st) (b:=sb) (j:=6) (v:=.slice (some ⟨g,0,none⟩) (n+1) c) (by rw[aD sX];exact f);refine⟨_,_,_,E,?_,?_,?_,?_,?_,?_,?_,?_,?_,?_,?_,?_⟩<;>simp only[up,aF,aE,reduceCtorEq,dt,dF,and_self,f,s,t,u,w,z,A,B,aU7,i,C,qr,ro]
 .simp[nG]
 omega
theorem iy.gs2(H:iy lo w0 wr sb cb rb x y D vg vs vc ng ns n)(a:us.size=25)(c:J=ng*25/\(∀(w':World) (b z:Nat) (us:bi),us.length=25->(wr.alloc (.cells us.toArray 100)).grownBy w' vg.ownBlock->w'.ownsRow lo 100 25 (b,ng+1,z) (ng+1) (J++us)->(vg.ownBlock=b\/(wr.alloc (.cells us.toArray 100)).heap.size<=b)->iy lo w0 (w'.setCell (sb,3) (b,ng+1,z)) sb cb rb x y D (b,ng+1,z) vs vc (ng+1) ns n))(h:w'.ownsRow lo 100 25 (b,ng+1,z) (ng+1) (J++us.toList)/\(wr.alloc (.cells us 100)).grownBy w' vg.ownBlock/\(vg.ownBlock=b\/(wr.alloc (.cells us 100)).heap.size<=b)):iy lo w0 (w'.setCell (sb,3) (b,ng+1,z)) sb cb rb x y D (b,ng+1,z) vs vc (ng+1) ns n:=
 c.2 w' b z us.toList (by simpa using a) h.2.1 h.1 h.2.2
end
open Go.ChangeShapes Go.WideShapes Go.ChangeAt Go.Deep
theorem own:ownKnob prog.godebug=none:=kX
theorem laidOut:laidOutB prog:=kX
section
variable{H:Type}{enc:TypeId×Value->H}
theorem QY(h:(Lit.int .i64 Y).wf):pW Y:=by
 simp[Lit.wf,IntKind.min,IntKind.max,IntKind.signed,IntKind.bits]at h;exact⟨oX,oX⟩
theorem Xd(h:(Lit.int .u16 Y).wf):0<=Y/\Y<=65535:=by
 grind [Lit.wf,IntKind.min,IntKind.max,IntKind.signed,IntKind.bits]
theorem KU{k:IntKind}{v:Value}{x:DataW H×List MemPlace}(r:prog.underlying n=some (.slice z))(s:prog.underlying z=some (.int k))(t:prog.cellsOf z=1)(w:DataW.trod enc prog u 0 (λ_=>true) true cp n [v]=x):∃a d c,v=.slice a d c/\∃f:ce,d=f/\Rd k u a f/\∀e∈f,(Lit.int k e).wf:=by
 rcases open_ints r s t w with⟨g,_⟩|⟨x,l,y,f,g,_,F,A,m,_,p,o⟩
 .simp at g;exact⟨_,_,_,g,[],ii,⟨sX,λh=>cj5⟩,sX⟩
 simp at g;have B:f.length=y:=by simpa using m
 have q:(f.take l).length=l:=ci8
 refine⟨_,_,_,g,f.take l,q.symm,⟨by rw[q];unfold maxLen at A;omega,λG=>?_⟩,λe m=>o e (bH9 m)⟩;obtain⟨b,off,i⟩:=x;have C:=p 0 oX;have D:i=none:=by simpa[Addr.add]using bH6 C
 subst D;refine⟨b,off,ii,λj I=>?_⟩;have E:j<l:=oX
 have:=p j oX;rw[aj9]at this;rw[this];simp[List.getD,E]
theorem oT{α:Type}{p:Nat->α->Prop}(n:Nat)(h:∀i,i<n->∃x,p i x):∃l:List α,l=n/\∀(i:Nat) x,l[i]?=some x->p i x:=by
 induction n with
 |zero=>exact⟨[],ii,λi x a=>by simp at a⟩
 |succ n ih=>
  obtain⟨l,b,c⟩:=ih λi a=>h i oX
  obtain⟨x,d⟩:=h n oX;refine⟨l++[x],by simp[b],λi y a=>?_⟩;grind
theorem sI{c:Array Field}{x:DataW H×List MemPlace}(f:prog.underlying b=some (.struct c))(h:oneCellFields prog c)(i:DataW.trod enc prog u 0 (λ_=>true) true n b J=x):J=prog.cellsOf b/\∀(j:Nat) (g:Field),c[j]?=g->∀v,J[j]?=some v->∃a y,DataW.trod enc prog u 0 (λ_=>true) true a g.type [v]=some y:=by
 obtain⟨k,a,_,_,l,m,o⟩:=DataW.trod_struct f i;refine⟨l,λj g d v t=>?_⟩;obtain⟨p,q⟩:=hone_of h j g d;have e:=o j g d;have r:j<k.length:=by rw[m];exact(dh d).1
 rw[p,q,fv r]at e;have s:(J.drop j).take 1=[v]:=by grind [List.drop_eq_getElem_cons]
 rw[s]at e;exact⟨a,_,e⟩
section
variable{v:Value}{x:DataW H×List MemPlace}
theorem nF(a:prog.underlying n=some (.int .i64))(b:DataW.trod enc prog u 0 (λ_=>true) true cp n [v]=x):∃z,v=I z/\pW z:=by
 grind [DataW.trod_int,QY]
theorem QZ(a:prog.underlying n=some .bool)(b:DataW.trod enc prog u 0 (λ_=>true) true cp n [v]=x):∃z,v=B z:=by
 grind [DataW.trod_bool]
end
theorem xm{a:Addr}(e:0<n)(h:∃c,f.cells? b (a.add (0*n)) n=some c):a.spot=none:=by
 obtain⟨c,d⟩:=h;obtain⟨_,g,i⟩:=World.cells?_some d;grind [Addr.add,World.cell?_spot]
section
variable{v:Value}{x:DataW H×List MemPlace}
theorem JI(A:DataW.trod enc prog u 0 (λ_=>true) true n 47 [v]=x):∃a d c,v=.slice a d c/\∃s:List Case,d=s/\gW u a s:=by
 rcases open_slice underlying47 A with⟨fa,_⟩|⟨a,d,c,m,n',D,Pl,fa,_,hl,hm,g,_,t⟩
 .exact ce5
 simp at fa;have C:d<=m:=by rw[g];split<;>omega
 obtain⟨l,E,F⟩:=oT (p:=λj (o:Case)=>∃b off,some a=some (⟨b,off,none⟩:Addr)/\
   u.cell? ⟨b,off+j*3,none⟩=some (B o.cF)/\u.cell? ⟨b,off+j*3+1,none⟩=some (I o.ch)/\u.cell? ⟨b,off+j*3+2,none⟩=some (I o.v)/\pW o.ch/\pW o.v) d (λj hj=>by
  obtain⟨i,w,G⟩:=t j oX;have k:prog.cellsOf 52=3:=kX
  rw[k]at w;obtain⟨y,r⟩:=sI underlying52 kX G;obtain⟨_,_,J⟩:=World.cells?_some w;rw[k]at y;match i,y with
  | [K,L,M],_=>
   obtain⟨n0,y0,N⟩:=r 0 _ ii K ii;obtain⟨n1,y1,O⟩:=r 1 _ ii L ii;obtain⟨n2,y2,Q⟩:=r 2 _ ii M ii;obtain⟨R,rfl⟩:=QZ underlying4 N;obtain⟨S,rfl,T⟩:=nF underlying3 O;obtain⟨U,rfl,X⟩:=nF underlying2 Q;have Y:=xm (by rw[k];omega) ((t 0 oX).imp λ_ h=>h.1);obtain⟨b,off,z⟩:=a;subst Y;have e:=λq (Z:q<3)=>J q Z
   simp only[aj9]at e;exact⟨⟨R,S,U⟩,b,off,ii,e 0 oX,e 1 oX,e 2 oX,T,X⟩)
 exact⟨_,_,_,fa,l,E.symm,cx1,F⟩
theorem Q1(E:DataW.trod enc prog u 0 (λ_=>true) true n 50 [v]=x):∃a d c,v=.slice a d c/\∃w:go,d=w/\kC u a w:=by
 rcases open_slice underlying50 E with⟨fa,_⟩|⟨a,d,c,m,n',D,Pl,fa,_,hl,hm,i,_,y⟩
 .exact ce5
 simp at fa;have F:d<=m:=by rw[i];split<;>omega
 obtain⟨l,G,J⟩:=oT (p:=λj (o:cu)=>∃b off x r,some a=some (⟨b,off,none⟩:Addr)/\
   u.cell? ⟨b,off+j*6,none⟩=some (I o.ai)/\u.cell? ⟨b,off+j*6+1,none⟩=some (I o.ch)/\u.cell? ⟨b,off+j*6+2,none⟩=some (I o.n)/\u.cell? ⟨b,off+j*6+3,none⟩=some (I o.v)/\
   u.cell? ⟨b,off+j*6+4,none⟩=some (.slice x o.cases r)/\u.cell? ⟨b,off+j*6+5,none⟩=some (B o.dG)/\gW u x o.cases/\pW o.ai/\pW o.ch/\pW o.n/\pW o.v) d (λj hj=>by
  obtain⟨s,z,K⟩:=y j oX;have t:prog.cellsOf 49=6:=kX
  rw[t]at z;obtain⟨A,g⟩:=sI underlying49 kX K;obtain⟨_,_,L⟩:=World.cells?_some z;rw[t]at A;match s,A with
  | [M,N,O,Q,R,S],_=>
   obtain⟨n4,y4,T⟩:=g 4 _ ii R ii;obtain⟨x,k,r,rfl,U,X,Y⟩:=JI T;obtain⟨n0,y0,Z⟩:=g 0 _ ii M ii;obtain⟨n1,y1,h1⟩:=g 1 _ ii N ii;obtain⟨n2,y2,h2⟩:=g 2 _ ii O ii;obtain⟨n3,y3,h3⟩:=g 3 _ ii Q ii;obtain⟨n5,y5,h5⟩:=g 5 _ ii S ii;obtain⟨z0,rfl,i0⟩:=nF underlying3 Z;obtain⟨z1,rfl,i1⟩:=nF underlying3 h1;obtain⟨z2,rfl,i2⟩:=nF underlying3 h2;obtain⟨z3,rfl,i3⟩:=nF underlying2 h3;obtain⟨b5,rfl⟩:=QZ underlying4 h5;have Ag:=xm (by rw[t];omega) ((y 0 oX).imp λ_ h=>h.1);obtain⟨b,off,C⟩:=a;subst Ag;have e:=λq (hq:q<6)=>L q hq
   simp only[aj9]at e;subst X;exact⟨⟨z0,z1,z2,z3,U,b5⟩,b,off,x,r,ii,e 0 oX,e 1 oX,e 2 oX,e 3 oX,e 4 oX,e 5 oX,Y,i0,i1,i2,i3⟩)
 exact⟨_,_,_,fa,l,G.symm,cx1,J⟩
theorem bp6(z:DataW.trod enc prog u 0 (λ_=>true) true n 22 [v]=x):∃a d c,v=.slice a d c/\∃p:be,d=p/\aH1 u a p:=by
 rcases open_slice1 underlying22 kX z with⟨fa,_⟩|⟨s,d,N,m,q,V,D,O,fa,_,Q,hm,g,_,t⟩
 .exact ce5
 simp at fa;have A:d<=m:=by rw[g];split<;>omega
 obtain⟨l,B,C⟩:=oT (p:=λi (w:go)=>∃b off r c,some s=some (⟨b,off,none⟩:Addr)/\u.cell? ⟨b,off+i,none⟩=some (.slice r w c)/\kC u r w) d (λi E=>by
  obtain⟨y,F⟩:=t i oX;obtain⟨x,k,G,I,J,K,L⟩:=Q1 F;obtain⟨b,off,e⟩:=s;have M:e=none:=by simpa[Addr.add]using bH6 (t 0 oX).1
  subst M;rw[aj9,I,K]at y;exact⟨J,b,off,x,G,ii,y,L⟩)
 exact⟨_,_,_,fa,l,B.symm,cx1,C⟩
end
section
variable{r:Reach}{v:Value}{d:DataW H}{p:List MemPlace}
theorem JJ(w:Value.okWide prog u r n 27 v)(A:DataW.Trod enc prog u 0 (λ_=>true) true 27 v d p):∃a b j x y g i m,v=.agg #[.slice a b j,I x,I y,.slice g i m]/\∃(p:be) (c:ce),b=p/\aH1 u a p/\i=c/\Rd .u16 u g c/\∀z∈c,0<=z/\z<=65535:=by
 obtain⟨B,rfl,e⟩:=okWide_struct underlying27 w;obtain⟨o,C⟩:=A;have D:prog.cellsOf 27=4:=kX
 obtain⟨U,X,Y,b,_,_,q,s,t⟩:=trod_struct3 underlying27 C;obtain⟨l⟩:=B;rw[D]at e;match l,e with
 | [Z,E,F,v3],_=>
  have G:prog.cellsOf 22=1:=kX
  have J:prog.cellsOf 24=2:=kX
  have K:prog.cellsOf 25=1:=kX
  simp only[Value.cells,G,J,K,List.drop,List.take]at q s t;obtain⟨a,b,j,rfl,p,L,M⟩:=bp6 q;obtain⟨_,f⟩:=sI underlying24 kX s;obtain⟨n0,z0,N⟩:=f 0 _ ii E ii;obtain⟨n1,z1,O⟩:=f 1 _ ii F ii;obtain⟨x,rfl,_⟩:=nF underlying3 N;obtain⟨y,rfl,_⟩:=nF underlying3 O;obtain⟨g,i,m,rfl,c,Q,R,S⟩:=KU underlying25 (k:=.u16) (by first|exact underlying65|kernel_rfl) kX t;exact⟨a,b,j,x,y,g,i,m,ii,p,c,L,M,Q,R,λz T=>Xd (S z T)⟩
theorem bp7(i:Value.okWide prog u r n 28 v)(j:DataW.Trod enc prog u 0 (λ_=>true) true 28 v d p):∃a b c,v=.slice a b c/\∃g:ce,b=g/\Rd .i64 u a g/\∀z∈g,-9223372036854775808<=z/\z<=9223372036854775807:=by
 obtain⟨a,b,c,rfl⟩:=okWide_slice underlying28 i;obtain⟨f,k⟩:=j;obtain⟨s,t,w,e,g,l,m,o⟩:=KU underlying28 underlying3 kX (by simpa[Value.cells]using k);simp at e;obtain⟨rfl,rfl,rfl⟩:=e;exact⟨a,b,c,ii,g,l,m,λz q=>QY (o z q)⟩
end
end
variable{Pb:Nat->Prop}{v0 v1 v2 vg vh vs v6 v7 v8 v9 v10 vd:Value}
section
variable(gl:List (bI×Int))(ga:am)(gc:Nat)(w:World)(H:ix gE Pb w ga gl)(hq:∀u∈gl,u.2≠0)
include gl ga gc w H hq
theorem br1:gt 14 #[Uo v0 v1 v2 (ga,gl.length,gc) vh vs v6 v7 v8 v9 v10 vd] w (eL (B true) (kL w)):=by
 have d:=H.1;have a:Hid (∀W,kL w W->gt 33 #[(ga,gl.length,gc),.func (.func 34) #[] #[]] W λe b=>e=I 0/\kL W b):=λW hW=>bm9 gl ga gc W (H.later hW) hq
 clear H hq;go_enter func14,ntmps14;go_upto_region 1 with fail
 generalize hW:World.alloc w _=f;obtain⟨L,S,⟨g,_⟩,_⟩:=bN5;clear hW;go_wp2_with (go_at_call 33;refine(a _ L).mono ?_;rintro e i ⟨rfl,c⟩);go_ret;exact⟨ii,L.trans c⟩
theorem bg0:gt 65 #[Uo v0 v1 v2 (ga,gl.length,gc) vh vs v6 v7 v8 v9 v10 vd] w λe l=>(∃a c,e=Value.slice a 0 c)/\kL w l:=by
 have v:=H.1;obtain⟨m,n⟩:=dA H hq;clear H hq;go_enter func65,ntmps65;go_upto_region 1 with fail
 generalize hW:World.alloc w _=p;obtain⟨L,S,⟨x,_⟩,_⟩:=bN5;clear hW;go_wp2;go_loopw [3,4,10] (λo _ i wr=>∃(j g:Nat),o=(g,0,0)/\j<=gl.length/\i=.int .i64 j/\kL p wr) (λ_ _ i _=>gl.length-(intOf i).toNat)
 case atStart=>exact⟨0,_,ii,wn _,ii,sX⟩
 obtain⟨j,g,rfl,y,rfl,hb⟩:=hrel;by_cases q:j<gl.length
 .obtain⟨u,d⟩:∃u,gl[j]?=some u:=⟨_,fv q⟩;obtain⟨b,off,A,rfl,f,R⟩:=aZ8 m d;have HG:=ag f;have z:(u.2==0)=false:=by have:=n.out u (lf d);simpa using this
  have r:=R wr (L.trans hb);clear d f R
  go_upto_region 5 with(first
   |(refine wpList_load_mid ii 100 (.tmp 13) ii b (off+j*25) ii A r cQ.1 cj6 ?_)
   |(refine df ii 100 (.tmp 5) (.tmp 14) ii wr ii A ii ii cj6 co1 HG.out.one ?_))
  generalize hW:World.alloc wr _=s;obtain⟨L2,S2,⟨k,_⟩,B⟩:=bN5;have t:=bN6;have C:∀W,kL s W->W.cell? ⟨wr.heap.size,3,none⟩=some (I u.2):=λW h=>(k W h 3 (by rw[HG.out.size];decide)).trans HG.out.st
  clear hW k;go_wp2;refine⟨⟨j+1,g,ii,oX,cj8,t⟩,cj2⟩
 go_wp2;go_ret;exact⟨⟨_,_,ii⟩,L.trans hb⟩
theorem bg1:gt 35 #[Uo v0 v1 v2 (ga,gl.length,gc) vh vs v6 v7 v8 v9 v10 vd] w λe b=>(∃a c,e=Value.slice a 0 c)/\kL w b:=by
 have i:=H.1;have d:Hid (∀W v,v=Uo v0 v1 v2 (ga,gl.length,gc) vh vs v6 v7 v8 v9 v10 vd->kL w W->gt 65 #[v] W λe b=>(∃a c,e=Value.slice a 0 c)/\kL W b):=λW v f hW=>by rw[f];exact bg0 gl ga gc W (H.later hW) hq
 clear H hq;go_enter func35,ntmps35;go_upto_region 1 with fail
 generalize hW:World.alloc w _=j;obtain⟨L,S,⟨k,_⟩,_⟩:=bN5;clear hW;go_wp2_with (go_at_call 65;refine(d _ _ cj4 L).mono ?_;rintro e l ⟨⟨a,c,rfl⟩,g⟩);go_ret;exact⟨⟨_,_,ii⟩,L.trans g⟩
end
def bg4:List Bool->Nat->Nat
 |l,0=>0
 |l,j+1=>bg4 l j+if l[j]?.getD false then 1 else 0
theorem bn9(bl:List Bool)(a:am)(d:Nat)(w:World)(H:ix lvE Pb w a bl):gt 16 #[Uo v0 v1 v2 vg vh (a,bl.length,d) v6 v7 v8 v9 v10 vd] w (eL (I (bg4 bl bl)) (kL w)):=by
 have g:=H.1;have HH:=ag H;clear H;go_enter func16,ntmps16;go_upto_region 1 with fail
 generalize hW:World.alloc w _=e;obtain⟨L,S,⟨l,_⟩,_⟩:=bN5;clear hW;go_wp2;go_loopw [3,9] (λn i wr=>∃(j k:Nat),n=.int .i64 k/\Hid (k=bg4 bl j)/\k<=j/\j<=bl.length/\i=.int .i64 j/\kL e wr) (λ_ i _=>bl.length-(intOf i).toNat)
 case atStart=>exact⟨0,0,ii,ii,rx _,wn _,ii,sX⟩
 obtain⟨j,k,rfl,HK,m,o,rfl,hb⟩:=hrel;by_cases f:j<bl.length
 .obtain⟨u,hu⟩:∃u,bl[j]?=some u:=⟨_,fv f⟩;obtain⟨b,off,p,rfl,⟨q,r,s,t,v,x,rfl⟩,R,y⟩:=bN4;have HU:=ag hu;clear hu;have z:=L.trans hb;go_upto_region 5 with fail
  generalize hW:World.alloc wr _=A;obtain⟨L2,S2,⟨B,_⟩,C⟩:=bN5;have c:=bN6;clear hW
  cases u
  all_goals
   go_wp2
  .exact⟨⟨j+1,k,ii,cv2,oX,oX,cj8,c⟩,cj2⟩
  exact⟨⟨j+1,k+1,cj8,cv2,oX,oX,cj8,c⟩,cj2⟩
 obtain rfl:j=bl.length:=oX
 go_wp2;go_ret;exact⟨by rw[<-HK.out];rfl,L.trans hb⟩
theorem bi6(a:ce)(d:am)(f:Nat)(w:World)(H:ix lkE Pb w d a)(e:∀l∈a,l= -1):gt 18 #[Uo v0 v1 v2 vg (d,a.length,f) vs v6 v7 v8 v9 v10 vd] w (eL (I 0) (kL w)):=by
 have r:=H.1;obtain⟨g,k⟩:=dA H e;clear H e;go_enter func18,ntmps18;go_upto_region 1 with fail
 generalize hW:World.alloc w _=m;obtain⟨L,S,⟨s,_⟩,_⟩:=bN5;clear hW;go_wp2;go_loopw [3,9] (λn i wr=>∃(j:Nat),n=I 0/\j<=a.length/\i=.int .i64 j/\kL m wr) (λ_ i _=>a.length-(intOf i).toNat)
 case atStart=>exact⟨0,ii,wn _,ii,sX⟩
 obtain⟨j,rfl,t,rfl,hb⟩:=hrel;by_cases o:j<a.length
 .obtain⟨u,c⟩:∃u,a[j]?=some u:=⟨_,fv o⟩;obtain⟨b,off,v,rfl,⟨x,y,z,A,B,C,D,E,F,G,p,rfl⟩,R,J⟩:=g.out.get (n:=6) c;obtain rfl:u= -1:=k.out u (lf c);clear c;have K:=L.trans hb;go_upto_region 5 with fail
  generalize hW:World.alloc wr _=M;obtain⟨L2,S2,⟨N,_⟩,O⟩:=bN5;have q:=bN6;clear hW;go_wp2;exact⟨⟨j+1,ii,oX,cj8,q⟩,cj2⟩
 go_wp2;go_ret;exact⟨ii,L.trans hb⟩