/- WholeQuiet: the statement Rows.WholeQuietSaid, that when nobody runs any more the calm, the sound, the live and the locked are as the document says, holds for every input. Conditions: none. -/
import Derived.Test.YtadifmnmfnihdaaGreatA20
import Derived.Test.YtadifmnmfnihdaaGreatA21
import Derived.Test.YtadifmnmfnihdaaGreatA22
set_option linter.all false
set_option maxRecDepth 100000
set_option maxHeartbeats 40000000
namespace Go.Proofs.YtadifmnmfnihdaaGreat
open Go.RowKit Mach Go.Proofs.Tryz
variable{b z X cp:Nat}{G:Fx}{v u f w' w2:World}{D:Mem}{t:Wd}{A:am}{N:ap}{h:ce}{J:bi}
def okB(p:be)(x y:Int)(a b:Nat):Bool:=im p&&nK x p y&&decide (a<=300)&&decide (b<=300)
theorem Uk(p:be)(x y:Int)(a b:Nat):okB p x y a b=(decide (jR p x y=0)&&decide (p.length<=8)&&decide (a<=300)&&decide (b<=300)):=by
 grind [okB,jR,kH]
section
variable(p:be)(n:Nat)(hn:n=p)(a:am)(ca:Nat)(x y:Int)
include p n hn a ca x y
theorem Rc(c:am)(b d:Nat)(L:am)(j M:Nat)(R:b<=9223372036854775807)(S:j<=9223372036854775807)(w:World)(h1:aH1 w a p):gt 8 #[.agg #[(a,n,ca),x,y,(c,b,d)],(L,j,M)] w (eL (.bool (okB p x y b j)) (Below w w)):=by
 have N:n<=9223372036854775807:=cx4
 have f:=ag (Uk p x y b j);have k:=ag hn;have o:=ag (λW (g:Below w w W)=>GP p n hn a ca x y c b d W (h1.below g cG));have s:Hid (Below w w (w.alloc (.cells #[(a,n,ca),I x,I y,(c,b,d)] 27))):=(fp).alloc cG _;have B:Hid ((w.alloc (.cells #[(a,n,ca),I x,I y,(c,b,d)] 27)).heap[w.heap.size]?=some (.cells #[(a,n,ca),I x,I y,(c,b,d)] 27 (0,0))):=dP;obtain⟨r,t⟩:=dC (jR p x y);have O:=ag t;rw[<-t]at o f;clear h1 hn t;go_enter func8,ntmps8
 go_upto_region 2 with(first
  |(go_at_call 24;refine(o _ s).mono ?_;rintro e u ⟨Q,C,D,rfl,g⟩;have v:u.heap[w.heap.size]?=some (.cells #[.slice a n ca,I x,I y,.slice c b d] 27 (0,0)):=((g.block _ sX).trans B);have E:w.heap.size<u.heap.size:=(by have:=g.size;simp at this;omega);have i:=ag (dO C (dO D (dO E (dO v (s.out.trans (g.mono sX))))));clear g C D E v)
  |(refine JS ii 41 (.tmp 5) (.tmp 15) ii u.heap.size 0 Q ii ii (by rw[i.out.1];exact nQ.2) (λq z=>by rw[wl,cr (dP),xL (show q<12 by rw[i.out.1]at z;exact z)];rfl) (λq z=>iM _ _ _ (dP)) i.out.2.1 ?_))
 generalize F:(World.setCells _ _ _ _)=m;have A:m.heap[w.heap.size]?=some (.cells #[.slice a n ca,I x,I y,.slice c b d] 27 (0,0)):=by grind [j9,Hid.out,Go.RowKit.Below.heap_alloc]
 have l:Hid (Below w w m):=by rw[<-F];exact Below.setCells (ay5 i.out.2.2.1) _ _ _ (i.out.2.2.2.2.alloc (ay5 i.out.2.2.1) _)
 have v:m.cell? ⟨w.heap.size,0,none⟩=some (.slice a n ca):=by rw[cr A];rfl
 have c3:m.cell? ⟨w.heap.size,3,none⟩=some (.slice c b d):=by rw[cr A];rfl
 clear F A o s B;by_cases G:r=0
 .by_cases H:n<=8
  .by_cases J:b<=300
   .by_cases K:j<=300
    .go_wp2;go_ret;refine⟨?_,l⟩;rw[f.out,<-k.out];simp[G,H,J,K];omega
    go_wp2;go_ret;refine⟨?_,l⟩;rw[f.out,<-k.out];simp[K];omega
   go_wp2;go_ret;refine⟨?_,l⟩;rw[f.out,<-k.out];simp[J]
  go_wp2;go_ret;refine⟨?_,l⟩;rw[f.out,<-k.out];simp[H]
 go_wp2;go_ret;refine⟨?_,l⟩;rw[f.out,<-k.out];simp[G]
theorem Eb(v:ce)(g:am)(c k:Nat)(T:c=v)(pa:am)(l pc:Nat)(Dx:c<=9223372036854775807)(Fb:l<=9223372036854775807)(w:World)(h1:aH1 w a p)(U:c<=300->Rd .u16 w g v)(X:∀z∈v,0<=z/\z<=65535):gt 7 #[.agg #[(a,n,ca),x,y,(g,c,k)],(pa,l,pc)] w λe J=>Below w w J/\((okB p x y c l=false/\e=Value.tuple #[.pointer none,.bool false])\/(okB p x y c l/\∃N most F m t Y,x=(N:Nat)/\y=(most:Nat)/\nK N n most/\im p/\e=Value.tuple #[.pointer (some ⟨t,0,none⟩),.bool true]/\w.heap.size<=Y/\bz Y F J m (V.gj p N most v)/\J.heap[t]?=some (.cells #[F.aQ] 78 (0,0))/\w<=t/\∀r,m.aV r≠t)):=by
 have a0:n<=9223372036854775807:=cx4
 have HN:=ag hn;have K:Hid (n> 8->im p=false):=λh=>by grind [kH]
 have u:Hid (Below w w (w.alloc (.cells #[(a,n,ca),I x,I y,(g,c,k)] 27))):=(fp).alloc cG _;have L:Hid ((w.alloc (.cells #[(a,n,ca),I x,I y,(g,c,k)] 27)).heap[w.heap.size]?=some (.cells #[(a,n,ca),I x,I y,(g,c,k)] 27 (0,0))):=dP;have i:Hid (okB p x y c l=(im p&&nK x n y&&decide (c<=300)&&decide (l<=300))):=by grind [okB]
 have A:=ag (Ad p n hn a ca _ (h1.below u cG));have q:=ag (λW (b:Below w w W) f d=>bq1 p n hn a ca x y g c k W (h1.below b cG) f d);have M:=ag (λW (b:Below w w W) f N most d B=>Ai p n hn a ca N most v c T g k W (h1.below b cG) f d ((U B).below b cG) B X);clear h1 U X hn T;go_enter func7,ntmps7;go_upto_region 1 with fail
 generalize Z:w.alloc (.cells #[(a,n,ca),I x,I y,(g,c,k)] 27)=C at*;have c0:C.cell? ⟨w.heap.size,0,none⟩=some (.slice a n ca):=by rw[cr L.out];rfl
 have c3:C.cell? ⟨w.heap.size,3,none⟩=some (.slice g c k):=by rw[cr L.out];rfl
 have D:w.heap.size<C.heap.size:=by rw[<-Z];simp
 have O:=ag D;clear Z D;by_cases k2:n> 8
 .go_wp2;go_ret2;exact⟨u,.inl ⟨by rw[i.out,K.out k2];rfl,ii⟩⟩
 by_cases k3:c> 300
 .go_wp2;go_ret2
  exact⟨u,.inl ⟨by
              rw[i.out];have:¬c<=300:=oX
              simp[this],ii⟩⟩
 by_cases k4:l> 300
 .go_wp2;go_ret2
  exact⟨u,.inl ⟨by
              rw[i.out];have:¬l<=300:=oX
              simp[this],ii⟩⟩
 cases f:im p with
 |false=>
  rw[f]at A i;go_wp2_with (go_at_call 22;refine A.out.mono ?_;rintro e w1 ⟨rfl,b⟩;have j:=ag (u.out.trans (b.mono (ay5 O)));clear b);go_ret2;exact⟨j,.inl ⟨by rw[i.out];rfl,ii⟩⟩
 |true=>
  rw[f]at A i;have E:Hid (∀W,Below C.heap.size C W->W.cell? ⟨w.heap.size,0,none⟩=some (.slice a n ca)/\W.cell? ⟨w.heap.size,1,none⟩=some (I x)/\W.cell? ⟨w.heap.size,2,none⟩=some (I y)/\W.cell? ⟨w.heap.size,3,none⟩=some (.slice g c k)/\Below w.heap.size w W):=λW b=>by have e:=(b.block _ O).trans L;refine⟨?_,?_,?_,?_,u.out.trans (b.mono (ay5 O))⟩<;>(rw[cr e];rfl)
  have B:c<=300:=oX
  have h4:l<=300:=oX
  cases d:nK x n y with
  |false=>
   have o:=ag (λW b=>q W b f d);rw[d]at i;clear q M f d
   go_wp2_with (first
    |(go_at_call 22;refine A.out.mono ?_;rintro e w1 ⟨rfl,b⟩;obtain⟨d0,d1,d2,d3,G⟩:=E.out _ b;have j:=ag G;clear b G)
    |(go_at_call 23;refine(o _ j).mono ?_;rintro e w2 ⟨rfl,b⟩;have Q:=ag (j.out.trans (b.mono j.out.size));clear b))
   go_ret2;exact⟨Q,.inl ⟨by rw[i.out];rfl,ii⟩⟩
  |true=>
   have S:=d;unfold nK at S;simp only[qs,lm]at S;obtain⟨N,rfl⟩:∃N:Nat,x=N:=⟨x.toNat,oX⟩;obtain⟨most,rfl⟩:∃N:Nat,y=N:=⟨y.toNat,oX⟩;have HY:=ag (λW b=>M W b f N most d B);have UP:=ag (dO d f);rw[d]at i;clear q M f d S
   go_wp2_with (first
    |(go_at_call 22;refine A.out.mono ?_;rintro e w1 ⟨rfl,b⟩;obtain⟨d0,d1,d2,d3,G⟩:=E.out _ b;have j:=ag G;clear b G)
    |(go_at_call 23;refine(HY _ j).mono ?_;rintro e w2 ⟨F,m,t,rfl,R,b,o,s,H⟩;have Q:=ag (j.out.trans (b.mono j.out.size));have Bg:=ag (dO R (dO o (dO s H)));clear b R o s H))
   go_ret2;obtain⟨R,o,s,H⟩:=Bg.out;have hs:=j.out.size;exact⟨Q,.inr ⟨by rw[i.out];simp[B,h4],N,most,F,m,t,_,ii,ii,UP.out.1,UP.out.2,ii,oX,R,o,oX,H⟩⟩
end
theorem ix.slA{α:Type}{E:nR α}{P:Nat->Prop}{a:List α}{f:Nat->α->bi}(m:∀i x,f i x=f 0 x)(n:∀x d,E.F P u x d->d=f 0 x)(h:ix E P u A a):gC u A a (bT f 0 a):=λo=>by
 obtain⟨_,c,⟨s,p⟩,q⟩:=h;obtain⟨b,off,e,_,r⟩:=q (List.length_pos_iff.1 o)
 have:c=a.map (f 0):=ad9 λk=>by
  rw[na]
  cases hx:a[k]? with
  |none=>exact rq (by have:=ak8.1 hx;omega)
  |some x=>
   have t:=bM1;have g:=fv (l:=c) (i:=k) oX;rw[g,n x _ (p k x _ hx g)];rfl
 exact⟨b,off,e,λj v g=>r j v (by rw[this,<-bd2 m a 0];exact g)⟩
theorem St2.shift{i j n o:am}(H:St2 t u f A i j n o)(w:u=z+1)(l:kL v u)(q:v<=z)(a:bi):St2 t v (f.setCells z 0 a) A i j n o:=by
 have p:aV2 (Fr u) f (f.setCells z 0 a):=⟨by rw[rk];exact rx _,λb _ r=>j9 (λe=>by have:u<=b:=r;omega) _ _ _⟩;have m:∀k,k<(f.setCells z 0 a).heap.size->Fr u k->Fr v k:=λk _ h=>jm l.size h
 exact⟨Below.setCells q _ _ _ (l.trans H.l),(H.g.Ur p).mono dX m,(H.h.Ur p).mono dX m,(H.c.Ur p).mono dX m,(H.s.Ur p).mono dX m,(H.d.Ur p).mono dX m⟩
theorem pU(R:bz z G v D t)(E:tc t N)(H:v.heap[X]?=some (.cells #[G.aQ] 78 (0,0))):gt 10 #[X] v λe O=>∃c a d f j k g n i o p r s u,e=Value.agg (Ze t c a d f j k g n i o p r s u t.gs t.au t.gs)/\St2 t v O c a d f g/\(t.au.length=0->a=none/\i=0):=by
 have I:=ag (dO R H);have Q:=ag E;clear R E H;go_enter func10,ntmps10;go_upto_region 1 with fail
 generalize hW:World.alloc v _=T;obtain⟨x,S1,_,J⟩:=bN5;have Y:T.cell? X=G.aQ:=by rw[cr (kL.heap x I.out.2)];rfl
 have U:=ag (aa8 (I.out.1.below x) Q);obtain⟨W,y⟩:∃b,b=v.heap.size:=⟨_,ii⟩;rw[<-y]at J S1 ⊢;have A:=ag (dO x (dO S1 y));clear hW S1 y x
 go_wp2_with (first
  |(go_at_call 26;refine U.out.mono ?_;rintro e Z ⟨c,a,d,f,j,k,g,n,i,o,p,r,s,u,rfl,B,K⟩;have C:=ag (kL.heap B.l J);have L:=ag (dO B K);clear B K)
  |(refine JS ii 41 (.tmp 2) (.tmp 7) ii W 0 (Ze t c a d f j k g n i o p r s u t.gs t.au t.gs.length) ii ii nQ.2 (λq M=>by rw[wl,cr C.out,xL (show q<12 from M)];rfl) (λq M=>iM _ _ _ C) cj0 ?_))
 refine bj2 ii ii (cs:=(Ze t c a d f j k g n i o p r s u t.gs t.au t.gs.length)) (dI C ii) nQ ?_;exact⟨c,a,d,f,j,k,g,n,i,o,p,r,s,u,ii,L.out.1.shift A.out.2.1 A.out.1 (at4 A.out.2.2.symm) _,L.out.2⟩
theorem GW(w:World):gt 39 #[I 0] w (eL (.bool false) λa=>w=a):=by
 go_enter func39,ntmps39;exact bZ9
theorem GX(b c:Nat)(w:World)(h:w.cell? b=I 0):gt 73 #[(b,1,c),.func (.func 39) #[] #[]] w (eL (I (-1)) λa=>w=a):=by
 have d:=ag GW;go_enter func73,ntmps73;go_wp2;go_loopw [4,5,8] (λr v i wr=>∃k:Nat,i=.int .i64 k/\k<=1/\wr=w) (λr v i _=>1-(intOf i).toNat)
 case atStart=>exact⟨0,ii,oX,ii⟩
 obtain⟨k,rfl,f,rfl⟩:=hrel;by_cases g:k<1
 .obtain rfl:k=0:=by omega
  go_wp2_with (go_at_call 39;refine(d _).mono ?_;rintro e j ⟨rfl,rfl⟩);go_roundw
  case rel=>exact⟨1,ii,oX,trivial⟩
  simp[intOf]
 obtain rfl:k=1:=oX
 exact bZ9
theorem Am(b c:Nat)(w:World)(h:w.cell? b=I 0):gt 40 #[(b,1,c),.func (.func 39) #[] #[]] w (eL (.bool false) λa=>w=a):=by
 have d:=ag (GX b c w h);clear h;go_enter func40,ntmps40;go_wp2_with (go_at_call 73;refine d.out.mono ?_;rintro e f ⟨rfl,rfl⟩);go_ret;exact⟨ii,ii⟩
theorem Ri{d o p x:am}(H:St2 (V.gj ev 2 1 []) u w' A d o p x)(i:kL w' w2)(y:∀(q:Nat) v,(#[I 0,(),B false,I (-1),(),()]:dl)[q]?=some v->w2.cell? (b,q)=v):Cs w2 A b o p:=by
 have G:=H.g.later i;have C:=H.c.later i;obtain⟨z,D,_,rfl,_⟩:=G.get (n:=25) (k:=0) ii;obtain⟨r,E,_,rfl,⟨F,J,rfl⟩,_,a⟩:=C.get (n:=1) (k:=0) ii;obtain⟨_,_,_,e,⟨K,c1,rfl⟩,_,k1⟩:=C.get (n:=1) (k:=1) ii
 cases e;have a:=a w2 (kb _);have k1:=k1 w2 (kb _);refine⟨⟨z,D,ii,λj l t=>?_⟩,⟨b,0,ii,λq v m=>by rw[wl];exact y q v m⟩,(H.s.later i).slA (f:=mg) (λ_ _=>rfl) λ_ _ h=>h,⟨r,E,F,J,K,c1,ii,?_,by simpa using a,cu2⟩⟩
 .have L:(glT (V.gj ev 2 1 []))[j]?=some (V.jQ l,0,false):=by
   have U:j<2:=um t;rcases(show j=0\/j=1 by omega)with rfl|rfl<;>(cases t;rfl)
  obtain⟨_,_,_,e,⟨M,N,O,d1,Q,d2,R,d3,S,d4,rfl,T⟩,m,_⟩:=G.get (n:=25) L
  cases e;refine⟨M,N,O,d1,Q,d2,R,d3,S,d4,λq v w=>?_,T w2 (kb _).ER⟩;rw[m w2 (kb _) q (dh w).1,<-w];exact Array.getElem?_toList.symm▸rfl
 by_cases h:r<w2
 .exact h
 simp[World.cell?,Array.getElem?_eq_none (Nat.le_of_not_lt h)]at a
theorem GY(R:bz b G v D (V.gj ev 2 1 []))(q:v.heap[z]?=some (.cells #[G.aQ] 78 (0,0))):gt 10 #[z] v λe p=>∃a g i j k l c m d n f o,e=Value.agg #[I 2,I 1,I 0,.slice d 2 n,(),.slice a 2 g,.slice f 2 o,.slice i 0 j,I 0,.slice k 0 l,I 0,.slice c 0 m]/\St2 (V.gj ev 2 1 []) v p d none a f c:=by
 obtain⟨u,r⟩:=(V.wI vx (N:=2) oX (most:=1) oX [] dX).Um uo oX;refine(pU R r q).mono ?_;rintro e p ⟨d,w,a,f,i,k,c,n,x,g,o,j,l,m,rfl,s,t⟩;obtain⟨rfl,rfl⟩:=t ii;exact⟨a,g,i,j,k,l,c,m,d,n,f,o,ii,s⟩
theorem M9(a:am)(c b:Nat)(w:World)(hp:aH1 w a ev)(yU:w.cell? b=I 0):gt 20 #[(a,2,c),.agg #[I 2,I 1],(),(b,1,1)] w λe n=>∃F m o lo,e=Value.tuple #[.pointer (some ⟨o,0,none⟩),I 0]/\bz lo F n m pV/\w<=lo/\Below w w n/\n.heap[o]?=some (.cells #[F.aQ] 78 (0,0))/\w<=o/\∀r,m.aV r≠o:=by
 obtain⟨i5,yi,a0,a1,a2⟩:=AC Tryz.Kf;have CM:Below w w (w.alloc (.cells #[I 2,I 1] 24)):=(fp).alloc cG _;have O:Hid (gt 23 #[.slice a 2 c,.agg #[I 2,I 1],.slice none 0 0] (w.alloc (.cells #[I 2,I 1] 24)) λe n=>∃F m o,e=.returned (.tuple #[.pointer (some ⟨o,0,none⟩),I 0])/\bz ((w.alloc (.cells #[I 2,I 1] 24)).heap.size+1) F n m (V.gj ev 2 1 [])/\Below w.heap.size w n/\n.heap[o]?=some (.cells #[.pointer (some ⟨F.aQ,0,none⟩)] 78 (0,0))):=by refine(Ai ev 2 rfl a c 2 1 [] 0 rfl none 0 (w.alloc (.cells #[I 2,I 1] 24)) (hp.below CM cG) dX dX ⟨dX,λh=>cj5⟩ oX (λz hz=>by cases hz)).mono ?_;rintro e n ⟨F,m,o,rfl,R,f,Y,_,_⟩;exact⟨F,m,o,ii,R,CM.trans (f.mono sX),Y⟩
 have XP:Hid (∀W,Below w w W->gt 40 #[.slice (some ⟨b,0,none⟩) 1 1,.func (.func 39) #[] #[]] W λe n=>e=Value.bool false/\W=n):=λW f=>Am b 1 W (cw f cG _ _ yU)
 have a3:=ag yU;clear hp yU CM;go_enter func20,ntmps20
 go_upto_region 7 with(first
  |(go_at_call 23;refine O.out.mono ?_;rintro e w2 ⟨F,m,o,rfl,R,f,Y⟩;have S:=ag (dO R (dO f Y));clear R f Y)
  |(go_at_call 40;refine(XP _ S.out.2.1).mono ?_;rintro e g ⟨rfl,rfl⟩))
 have pI:=ag (GY S.out.1 S.out.2.2)
 go_upto_region 8 with(first
  |(go_at_call 10;refine pI.out.mono ?_;rintro e g ⟨x,y,A,C,D,E,G,H,J,K,L,M,rfl,hr⟩;have Bg:=ag hr;clear hr)
  |(refine df ii 41 (.tmp 13) (.tmp 35) ii g ii #[I 2,I 1,I 0,(J,2,K),(),(x,2,y),(L,2,M),(A,0,C),I 0,(D,0,E),I 0,(G,0,H)] ii ii nQ.2 ii cj0 ?_))
 dsimp only[Act.put];obtain⟨w4,Z⟩:=dC (g.alloc (.cells #[I 2,I 1,I 0,(J,2,K),(),(x,2,y),(L,2,M),(A,0,C),I 0,(D,0,E),I 0,(G,0,H)] 41));obtain⟨d,mB⟩:∃b,b=g.heap.size:=⟨_,ii⟩;rw[<-Z,<-mB];have h0:Hid (w4.heap[d]?=some (.cells #[I 2,I 1,I 0,(J,2,K),(),(x,2,y),(L,2,M),(A,0,C),I 0,(D,0,E),I 0,(G,0,H)] 41 (0,0))/\Below g g w4):=by refine⟨by rw[Z,mB];exact dP,by rw[Z];exact(fp).alloc cG _⟩
 have Bm:Hid (d=g.heap.size):=mB;clear Z mB pI O XP;go_wp2_with fail
 go_loopw [38] (λi wr=>∃(k:Nat) (va:am) (T:Nat),i=.int .i64 k/\k<=1/\Hid (wr.heap[d]?=some (.cells #[I 2,I 1,I 0,(J,2,K),(va,k,T),(x,2,y),(L,2,M),(A,0,C),I 0,(D,0,E),I 0,(G,0,H)] 41 (0,0))/\Below g g wr/\(k=0->va=none/\T=0)/\(k=1->∃f,va=some ⟨f,0,none⟩/\∀(q:Nat) v,(#[I 0,(),B false,I (-1),(),()]:dl)[q]?=some v->wr.cell? ⟨f,q,none⟩=some v))) (λi _=>1-(intOf i).toNat)
 case atStart=>exact⟨0,none,0,ii,oX,⟨h0.out.1,h0.out.2,(λ_=>⟨ii,ii⟩),(λh=>aX h dX)⟩⟩
 clear h0;obtain⟨k,va,T,rfl,hk,s⟩:=hrel;have qq:g.heap.size<=wr.heap.size:=s.out.2.1.size;have GV:Below w w wr:=S.out.2.1.trans ((Below.trans Bg.out.l (s.out.2.1.mono (Below.size Bg.out.l))).mono S.out.2.1.size);by_cases dD:k<1
 .obtain rfl:k=0:=by omega
  obtain⟨rfl,rfl⟩:=s.out.2.2.1 ii;have N:=s.out.1;have c4:wr.cell? ⟨d,4,none⟩=some (.slice none 0 0):=by rw[cr N];rfl
  have f4:=iM wr d 4 N;have a4:wr.cell? ⟨b,0,none⟩=I 0:=cw GV cG _ _ a3;have NB:d<wr:=(dh N).1;clear N GV;go_upto_region 12 with(at_builtin;go_loud (refine jw (us:=#[I 0,.slice none 0 0,B false,I (-1),.slice none 0 0,.slice none 0 0]) (w2:=wr) ii (.tmp 43) (.tmp 46) 36 rfl UM yi a0 a1 a2 ii dX dX ii ii cj0 (.slice none 0 0) 0 [] ii (ai9 _ g.heap.size _ _) ii oX qq ?_);intro t U u j X lN;have Q:u.heap[d]?=wr.heap[d]?:=(by rw[X.block d ci8 (λe=>by cases e),gf _ _ _ NB]);have d4:u.cell? ⟨d,4,none⟩=some (.slice none 0 0):=(kZ Q).trans c4;have a6:u.frozen? ⟨d,4,none⟩=false:=(xp Q).trans f4;have H9:=ag (dO j (dO X (dO lN Q)));clear j X lN Q)
  have O:Hid ((u.setCell ⟨d,4,none⟩ (.slice (some ⟨t,0,none⟩) 1 U)).heap[d]?=some (.cells #[I 2,I 1,I 0,.slice J 2 K,.slice (some ⟨t,0,none⟩) 1 U,.slice x 2 y,.slice L 2 M,.slice A 0 C,I 0,.slice D 0 E,I 0,.slice G 0 H] 41 (0,0))/\Below g.heap.size g (u.setCell ⟨d,4,none⟩ (.slice (some ⟨t,0,none⟩) 1 U))/\(∃f,(some ⟨t,0,none⟩:am)=some ⟨f,0,none⟩/\∀(q:Nat) v,(#[I 0,.slice none 0 0,B false,I (-1),.slice none 0 0,.slice none 0 0]:dl)[q]?=some v->(u.setCell ⟨d,4,none⟩ (.slice (some ⟨t,0,none⟩) 1 U)).cell? ⟨f,q,none⟩=some v)):=by
   obtain⟨j,X,lN,Q⟩:=H9.out;have a5:g<=d:=by rw[Bm.out];exact rx _
   have Rq:t≠d:=by
    rcases lN with h|h
    .cases h
    simp at h;omega
   refine⟨?_,?_,t,ii,λq v hv=>?_⟩
   .have:=ms u d 4 _ 41 (t,1,U) (Q.trans s.out.1);exact this
   .exact((s.out.2.1.alloc qq _).grown X ci8 (λb f=>by cases f)).setCell (p:=(d,4)) a5 _
   rw[kZ (w:=u) (a:=⟨t,q,none⟩) (fQ (by simpa using Rq))];obtain⟨b',VK,e,hc⟩:=gC.tO j oX
   cases e;grind
  clear H9 s c4 f4 a4 qq;go_wp2;go_roundw
  case rel=>exact⟨1,_,_,ii,oX,⟨O.out.1,O.out.2.1,(λh=>aX h dX),(λ_=>O.out.2.2)⟩⟩
  simp[intOf]
 obtain rfl:k=1:=oX
 obtain⟨N,Hl,_,h1⟩:=s.out;obtain⟨f,rfl,hc⟩:=h1 ii;have HE:=ag (JQ J (some ⟨f,0,none⟩) x L A D G K T y M C E H wr (Ri Bg Hl hc));have t:=ag (dO N GV);clear N Hl h1 hc s GV;go_upto_region 13 with fail
 refine as8 ?_;refine wpList_load_mid ii 41 (.tmp 13) ii d 0 rfl #[I 2,I 1,I 0,(J,2,K),.slice (some ⟨f,0,none⟩) 1 T,(x,2,y),(L,2,M),(A,0,C),I 0,(D,0,E),I 0,(G,0,H)] (λq v hq=>by rw[wl,cr t.out.1];exact hq) nQ.1 nQ.2 ?_;go_wp2_with (go_at_call 41;refine HE.out.mono ?_;rintro e u ⟨F9,m9,Q,rfl,j⟩;have H9:=ag j;clear j);go_ret2;obtain⟨R9,ZP,U,a7,X⟩:=H9.out;have hs:=t.out.2.size;exact⟨F9,m9,Q,_,ii,R9,oX,t.out.2.trans (ZP.mono hs),U,oX,X⟩
theorem aH1.toN{p:be}(h:aH1 v A p):nZ v A (p.map λl=>l.map λo=>o.cases):=by
 refine⟨by rw[ko];exact h.1,λi d=>?_⟩;rw[ko]at d;obtain⟨l,k⟩:∃l,p[i]?=some l:=⟨_,fv d⟩;have e:(p.map λl=>l.map λo=>o.cases.length).getD i []=l.map λo=>o.cases.length:=cp2
 rw[e];obtain⟨b,off,r,c,m,n,f⟩:=h.2 i l k;refine⟨b,off,r,c,m,by rw[ko];exact n,by rw[ko];exact f.1,λj g=>?_⟩;rw[ko]at g;obtain⟨o,q⟩:∃o,l[j]?=some o:=⟨_,fv g⟩;have s:(l.map λo=>o.cases.length).getD j 0=o.cases.length:=cp2
 rw[s];obtain⟨t,a,x,u,w,y,z,B,C,D,E,F,_⟩:=f.2 j o q;exact⟨t,a,_,_,_,_,x,u,_,w,y,z,B,C,D,E,F.1⟩
theorem GZ(a:am)(c:Nat)(w:World)(h:aH1 w a ev):gt 12 #[(a,2,c),I 2] w (eL (I 198) (Below w w)):=by
 have m:(ev.map λl=>l.map λo=>o.cases.length)=[[0,0],[0,0]]:=rfl;have g:=h.toN;rw[m]at g;have n:Small [[0,0],[0,0]]:=by refine⟨dX,λi d=>?_⟩;grind
 refine(Hv [[0,0],[0,0]] 2 rfl a c 2 w g n).mono ?_;rintro e r ⟨⟨b,rfl,f⟩,p⟩
 have q:¬Ln [[0,0],[0,0]] 2:=by
  rintro(h|h|h|⟨i,d,h⟩)
  .omega
  .omega
  .simp at h
  have d:i<2:=d;rcases(show i=0\/i=1 by omega)with rfl|rfl
  all_goals
   rcases h with h|⟨j,k,h⟩
   .simp at h
   have k:j<2:=k;rcases(show j=0\/j=1 by omega)with rfl|rfl<;>simp at h
 have f:=f.2 q;refine⟨?_,p⟩;rw[f];rfl
theorem Rk(h:Rg t):∃a b:nP,oY t.done=[a,b]/\a.v=9/\a.ok/\b.ok=false:=by
 unfold Rg at h;split at h
 .rename_i a b c;simp only[qs,beq_iff_eq,Bool.not_eq_true']at h;exact⟨a,b,c,h.1.1,h.1.2,h.2⟩
 cases h
theorem JR(w:World):gt 6 #[] w (oV (Below w w)):=by
 have CM:Below w w (w.alloc (.cells #[I 9] 2)):=(fp).alloc cG _;have y:Hid (gt 19 #[(w.heap.size,1,1)] (w.alloc (.cells #[I 9] 2)) λe i=>∃a c,e=Value.slice a 2 c/\aH1 i a ev/\Below w w i):=by refine(zo w (w.alloc (.cells #[I 9] 2)) (by rw[cr (dP)];rfl)).mono ?_;rintro e i ⟨a,c,rfl,M,N⟩;exact⟨a,c,ii,M,CM.trans (N.mono sX)⟩
 clear CM;go_enter func6,ntmps6;go_upto_region 2 with(go_at_call 19;refine y.out.mono ?_;rintro e q ⟨a,c,rfl,M,N⟩;have z:=ag (dO M N);clear M N)
 have Yr:Hid (gt 20 #[.slice a 2 c,.agg #[I 2,I 1],.slice none 0 0,.slice (some ⟨q.heap.size,0,none⟩) 1 1] (q.alloc (.cells #[I 0] 3)) λe i=>∃F m k s,e=.returned (.tuple #[.pointer (some ⟨k,0,none⟩),I 0])/\bz s F i m pV/\w.heap.size<=s/\Below w.heap.size w i/\aH1 i a ev/\i.heap[k]?=some (.cells #[.pointer (some ⟨F.aQ,0,none⟩)] 78 (0,0))/\∀r,m.aV r≠some k):=by have t:Below q.heap.size q (q.alloc (.cells #[I 0] 3)):=(fp).alloc cG _;have hs:=z.out.2.size;refine(M9 a c q (q.alloc (.cells #[I 0] 3)) (z.out.1.below t cG) (by rw[cr (dP)];rfl)).mono ?_;rintro e i ⟨F,m,k,s,rfl,R,A,g,n,_,u⟩;simp at A;exact⟨F,m,k,s,ii,R,oX,z.out.2.trans ((t.trans (g.mono sX)).mono hs),(z.out.1.below t cG).below g cG,n,u⟩
 clear y;go_upto_region 5 with(go_at_call 20;refine Yr.out.mono ?_;rintro e w3 ⟨F,m,k,s,rfl,R,A,g,C,n,u⟩;have H3:=ag (dO R (dO A (dO g (dO C (dO n u)))));clear R A g C n u)
 have a0:=ag (GZ a c w3 H3.out.2.2.2.1);have GN:Hid (∀W,Below w3 w3 W->gt 11 #[k,(),I 2,I 198] W λe i=>∃O j Q S,e=Value.tuple #[.slice O j Q,.bool true]/\Rg S=true/\S.done.length<=900000/\(∃ls,tc S ls)/\Below w w i/\i.heap[k]?=some (.cells #[F.aQ] 78 (0,0))/\∃m,bz s F i m S):=λW g=>by obtain⟨R,A,D,_,n,u⟩:=H3.out;have R4:=R.below g;have a1:W.heap[k]?=some (.cells #[F.aQ] 78 (0,0)):=(g.block k (dh n).1).trans n;have T:TB s F m W pV [(k,.cells #[F.aQ] 78)] W:=⟨m,At.refl R4,λp C=>by rw[ae6]at C;subst C;exact⟨a1,u⟩⟩;refine(JN Ee T (ae6.2 ii) QA.start ⟨oX,oX⟩ oX oX 0).mono ?_;rintro e i ⟨O,j,Q,S,f,E,r9,rfl,m',X⟩;obtain⟨U,G⟩:=E.fin r9;have v:Below w w W:=D.trans (g.mono D.size);refine⟨O,j,Q,S,by rw[U];rfl,G,by have:=E.1.1.len;have:=E.2.1;omega,E.1.Um uo (by have:=E.2.1;omega),?_,(X.loc _ (ae6.2 ii)).1,m',X.at_.bj⟩;refine⟨X.at_.mv.os.trans v.os,X.at_.mv.tape.trans v.tape,X.at_.mv.output.trans v.output,jm v.size X.at_.mv.size,λb g=>?_⟩;rw[X.at_.mv.keep b (by have:=v.size;omega) (λr e=>by have:=(R4.lies r b e).1;omega)];exact v.block b g
 clear Yr z
 go_upto_region 6 with(first
  |(go_at_call 12;refine a0.out.mono ?_;rintro e w4 ⟨rfl,R8⟩)
  |(go_at_call 11;refine(GN _ R8).mono ?_;rintro e w5 ⟨O,j,Q,S,rfl,G,hd,Y,g,n,hR⟩;have H5:=ag (dO G (dO hd (dO Y (dO g (dO n hR)))));clear G hd Y g n hR R8))
 have pI:Hid (gt 10 #[k] w5 λe i=>∃Z sc ma mc da dc x H ga gc ca cc ha o,e=Value.agg #[I S.dV,I S.eT,I S.av,.slice ga S.gs gc,.slice ha S.au o,.slice Z S.ah sc,.slice ca S.gs cc,.slice ma S.Eg.aK mc,I S.Eg.cO,.slice da S.UB dc,I S.drawn,.slice x S.done H]/\Below w w i/\gC i x S.done (bT ib 0 S.done)):=by obtain⟨G,hd,⟨ls,Y⟩,g,n,m5,R⟩:=H5.out;refine(pU R Y n).mono ?_;rintro e i ⟨ga,ha,Z,ca,ma,da,x,gc,o,sc,cc,mc,dc,H,rfl,U,_⟩;exact⟨Z,sc,ma,mc,da,dc,x,H,ga,gc,ca,cc,ha,o,ii,g.trans (U.l.mono g.size),U.d.slA (f:=ib) (λ_ _=>rfl) λ_ _ h=>h⟩
 go_upto_region 7 with(first
  |(go_at_call 10;refine pI.out.mono ?_;rintro e w6 ⟨Z,sc,ma,mc,da,dc,x,H,ga,gc,ca,cc,ha,o,rfl,g,J⟩;have H6:=ag (dO g J);clear g J)
  |(go_at_call 21;refine(QX _ _ _ _ _ _ _ _ _ _ _ S.done S.done ii H5.out.2.1 x H w6 H6.out.2 cj0).mono ?_;rintro e K ⟨ra,rc,rfl,J,g⟩;have H7:=ag (dO J g);clear J g))
 obtain⟨r0,r1,L,v0,k0,k1⟩:=Rk H5.out.1;rw[L];obtain⟨rb,Up,rfl,o⟩:=H7.out.1 (by rw[L];exact Nat.succ_pos 1);have g2:K.cell? (rb,Up+2)=I 9:=by rw[o 2 (I 9) (by rw[L,<-v0];rfl)]
 have g3:K.cell? (rb,Up+3)=B true:=by rw[o 3 (B true) (by rw[L,<-k0];rfl)]
 have g8:K.cell? (rb,Up+8)=B false:=by rw[o 8 (B false) (by rw[L,<-k1];rfl)]
 have a2:K.cell? (rb,Up+5+3)=B false:=g8;have HB:Hid (Below w w K):=H6.out.1.trans (H7.out.2.mono H6.out.1.size);clear o;go_wp2;go_ret;exact⟨ii,HB⟩
structure An(w w':World)(p:be)(UB:ce)(k:Nat)(eb af:Nat)(F:Fx)(m:Mem)(S:Wd):Prop where
 row:V.xK p UB k S
 below:Below w w w'
 Rl:w<=af
 eng:w'.heap[eb]?=some (.cells #[F.aQ] 78 (0,0))
 bj:bz af F w' m S
 ne:∀r,m.aV r≠eb
theorem aP6{p:be}(h:aH1 v A p)(f:im p):∀l∈p,CY l:=by
 intro l a;obtain⟨i,g,rfl⟩:=al3 a;obtain⟨b,off,r,c,_,_,k⟩:=h.2 i _ (fv g);obtain⟨m,G,d⟩:=kH f;have n:=(d.row _ a);refine⟨oX,λo e=>?_⟩;obtain⟨j,s,rfl⟩:=al3 e;obtain⟨H,t,x,I,_,_,_,_,_,_,_,u,w,y,z,B⟩:=k.2 j _ (fv s);refine⟨w,y,z,B,?_,λc C=>?_⟩
 .have:=(d.ops _ a _ e).cl;omega
 obtain⟨q,D,rfl⟩:=al3 C;obtain⟨_,_,_,_,_,_,E,F⟩:=u.2 q _ (fv D);exact⟨E,F⟩
theorem An.tb{p:be}(E:An v u p h b z X G D t){L:List (Nat×Obj)}(a:∀x∈L,x.1<v/\v.heap[x.1]?=x.2):TB X G D u t ((z,.cells #[G.aQ] 78)::L) u:=⟨D,At.refl E.bj,λx hx=>by
 rcases iL.1 hx with rfl|hx
 .exact⟨E.eng,E.ne⟩
 obtain⟨c,d⟩:=a x hx;exact⟨(E.below.block _ c).trans d,λr e=>by have:=(E.bj.lies r _ e).1;have:=E.Rl;omega⟩⟩
theorem An.ah7{p:be}{c:Nat}{S2:Wd}(E:An v u p h z cp c G D t){L:List (Nat×Obj)}(T:TB c G D u S2 ((cp,.cells #[G.aQ] 78)::L) f)(g:V.xK p h X S2):∃d,An v f p h X cp c G d S2:=by
 obtain⟨d,a⟩:=T;refine⟨d,g,⟨a.at_.mv.os.trans E.below.os,a.at_.mv.tape.trans E.below.tape,a.at_.mv.output.trans E.below.output,jm E.below.size a.at_.mv.size,λb i=>?_⟩,E.Rl,(a.loc _ (rn ..)).1,a.at_.bj,(a.loc _ (rn ..)).2⟩;rw[a.at_.mv.keep b (by have:=E.below.size;omega) (λr e=>by have:=(E.bj.lies r b e).1;have:=E.Rl;omega)];exact E.below.block b i
section
variable{p:be}{UB:ce}
theorem G1(E:An v w' p UB 0 z X G D t)(S:UB.length<=300)(H:∀c∈UB,0<=c/\c<=65535)(picks:ce)(i:Nat)(J:i=picks)(K:i<=300)(l:am)(u:Nat)(M:∀c∈picks,-9223372036854775808<=c/\c<=9223372036854775807)(o:Rd .i64 v l picks):gt 9 #[z,(l,i,u)] w' λe y=>∃q k S2 r,e=I q/\k<=300/\An v y p UB k z X G r S2:=by
 have m:=V.Vh p UB oX H;have d:T6 900000 (λk t=>V.xK p UB k t/\k<=300):=⟨λk t h=>m.ax k t h.1,λk t h=>m.av k t h.1,λk t g h=>m.who k t g h.1,λk t g h=>m.aG k t g h.1⟩
 obtain⟨L,N,s⟩:∃L:List (Nat×Obj),(∀x∈L,x.1<v.heap.size/\v.heap[x.1]?=some x.2)/\∀W:World,(∀x∈L,W.heap[x.1]?=some x.2)->Rd .i64 W l picks:=by
  cases picks with
  |nil=>exact⟨[],(λx n=>by cases n),(λW _=>⟨o.1,λh=>aX h sX⟩)⟩
  |cons c F=>
   obtain⟨b,off,rfl,f⟩:=o.2 sX;have A:=f 0 sX
   have B:b<v:=by
    rcases aj8 b v with h|h
    .exact h
    grind [World.cell?]
   refine⟨[(b,v.heap[b]'B)],λx n=>?_,λW C=>o.other ?_⟩
   .grind
   simp_all
 refine(MY d (E.tb N) (rn ..) ⟨E.row,wn _⟩ picks i J oX oX l u M (λW C=>s W λx n=>C x (nO _ n)) (λk t c f O A g Q=>?_)).mono ?_
 .obtain⟨j,U,F⟩:=d.who k t _ f (vt A c);rw[Q]at F;have B:=um O;obtain⟨R,a,b⟩:=V.xK.next f.1 oX oX F;exact⟨R,a,b,oX⟩
 rintro e y ⟨⟨q,rfl⟩,k,S2,f,_,T⟩;obtain⟨r,F⟩:=E.ah7 T f.1;exact⟨q,k,S2,r,ii,f.2,F⟩
theorem An.start{most:Nat}(d:im p)(c:nK b p most)(i:UB.length<=300)(e:Below v v w')(a:v<=X)(R:bz X G w' D (V.gj p b most UB))(f:w'.heap[z]?=some (.cells #[G.aQ] 78 (0,0)))(g:∀r,D.aV r≠z):An v w' p UB 0 z X G D (V.gj p b most UB):=by
 unfold nK at c;simp only[qs,lm]at c;exact⟨V.wI (kH d).2.2 oX oX UB oX,e,a,f,R,g⟩
end
theorem aL1:∀l:go,rR (l.map λo=>o.cases)=V.aH7 l
 | []=>rfl
 |o::l=>by
  have e:V.aH7 (o::l)=V.cost o+V.aH7 l:=by unfold V.aH7;rw[ae8,List.sum_cons]
  rw[ae8,rR,aL1 l,e];rfl
theorem aM4:∀p:be,CI (p.map λl=>l.map λo=>o.cases)=(p.map V.aH7).sum
 | []=>rfl
 |l::p=>by rw[ae8,CI,aM4 p,aL1,ae8,List.sum_cons]
theorem aP7:∀{l:go},(∀o∈l,V.Vz o)->V.aH7 l<=120*l
 | [],_=>rx _
 |o::l,h=>by
  have e:V.aH7 (o::l)=V.cost o+V.aH7 l:=by unfold V.aH7;rw[ae8,List.sum_cons]
  have b:=(h o (rn ..)).cl;have c:=aP7 (l:=l) λo a=>h o (nO _ a)
  grind [V.cost]
theorem aU8{p:be}(P:V.aY4 p):V.DY p<=15368:=by
 have key:∀q:be,(∀l∈q,l.length<=16/\∀o∈l,V.Vz o)->(q.map V.aH7).sum<=1920*q.length:=by
  intro q;induction q with
  |nil=>intro _;exact rx _
  |cons l q ih=>
   intro h;have b:=h l (rn ..);have c:=aP7 b.2;have d:=ih λl a=>h l (nO _ a)
   grind
 have b:=key p λl a=>⟨P.row l a,P.ops l a⟩
 grind [V.aY4.len,V.DY]
theorem aL7(p:be)(n:Nat)(x:n=p)(P:V.aY4 p)(a:am)(c:Nat)(K:Nat)(C:1<=K/\K<=16)(w:World)(h:aH1 w a p):gt 12 #[(a,n,c),I K] w λe q=>e=I (K*(V.DY p+1):Nat)/\Below w w q:=by
 obtain⟨d,k⟩:=dC (p.map λl=>l.map λo=>o.cases.length);have r:=h.toN;rw[<-k]at r;have s:d.length=p.length:=by rw[k,ko]
 have m:∀i,i<d.length->(d.getD i []).length<=16/\∀j,j<(d.getD i []).length->(d.getD i []).getD j 0<=6:=λi f=>by
  obtain⟨l,t⟩:∃l,p[i]?=some l:=⟨_,fv oX⟩;have e:d.getD i []=l.map λo=>o.cases.length:=by rw[k,c9X,na,t];rfl
  have u:=lf t;rw[e,ko];refine⟨P.row l u,λj g=>?_⟩;obtain⟨o,v⟩:∃o,l[j]?=some o:=⟨_,fv g⟩;rw[c9X,na,v];exact(P.ops l u o (lf v)).cl
 have D:=P.len;have y:Small d:=⟨oX,λi f=>⟨by have:=(m i f).1;omega,λj g=>by have:=(m i f).2 j g;omega⟩⟩;refine(Hv d n (by rw[s];exact x) a c K w r y).mono ?_;rintro e q ⟨⟨b,rfl,z⟩,A⟩;refine⟨?_,A⟩
 have B:¬Ln d K:=by
  rintro(h|h|h|⟨i,f,h⟩)
  .omega
  .omega
  .omega
  have:=m i f;rcases h with h|⟨j,g,h⟩
  all_goals grind
 rw[z.2 B,s];grind [V.DY,aM4]
theorem aL8{p:be}{i:ce}(E:An v u p i b z X G D t)(r:i.length<=300)(s:∀a∈i,0<=a/\a<=65535)(P:V.aY4 p)(J:b<=300)(d:Nat)(w:d<=8)(K:Nat)(y:K=p+d)(A:Nat):gt 11 #[z,(),I K,I (K*(V.DY p+1):Nat)] u λe m=>∃n B o k S2 l,e=Value.tuple #[.slice n B o,.bool true]/\k<=300000/\cE S2.ax=[]/\An v m p i k z X G l S2:=by
 have M:=P.len;have N:=aU8 P;have O:K*(V.DY p+1)<=16*15369:=at0 oX oX;have c:=V.aP5 (p:=p) (UB:=i) (K:=K) (d:=d) (k0:=b) (most:=K*(V.DY p+1)) ii y oX r s;refine(JN c (E.tb (L:=[]) (λx C=>by cases C)) (rn ..) (V.FQ.start E.row) ⟨oX,oX⟩ oX oX A).mono ?_;rintro e m ⟨n,j,o,S2,f,F,Q,rfl,T⟩;have q:cE S2.ax=[]:=by grind [V.FQ.stop]
 obtain⟨g,k,R,S,U,_⟩:=F;obtain⟨l,H⟩:=E.ah7 T R;exact⟨_,_,_,k,S2,l,by rw[q];rfl,oX,q,H⟩
theorem bv4{α:Type}{E:nR α}{f:List α}(B:E.n=z)(g:0<z)(o:f.length<=1000000)(h:∀(k:Nat) x,f[k]?=some x->∃b off a,A=(b,off)/\E.F TT u x a/\∀(q:Nat) v,a[q]?=some v->u.cell? ⟨b,off+k*z+q,none⟩=v):ix E TT u A f:=by
 obtain⟨d,r,s⟩:=oT (p:=λk a=>∃x b off,f[k]?=some x/\A=some ⟨b,off,none⟩/\E.F TT u x a/\∀q v,a[q]?=some v->u.cell? ⟨b,off+k*z+q,none⟩=some v) f λk t=>by obtain⟨b,off,a,e⟩:=h k _ (fv t);grind
 have i:∀c∈d,c.length=z:=λc i=>by grind [List.mem_iff_getElem?,nR.len]
 refine⟨o,d,⟨r,λk x a C D=>?_⟩,λw=>?_⟩
 .grind
 obtain⟨b,off,a,e,_,_⟩:=h 0 _ (fv (pd w));refine⟨b,off,e,trivial,λj v m=>?_⟩;have l:=um m;rw[yO d i]at l;obtain⟨G,H,I,_,n,_,y⟩:=s (j / z) _ (fv ((Nat.div_lt_iff_lt_mul g).2 l));rw[e]at n;cases n;have:=y (j % z) v (by rw[<-be1 i (fv ((Nat.div_lt_iff_lt_mul g).2 l)) (Nat.mod_lt _ g),Nat.div_add_mod'];exact m);grind [Nat.div_add_mod']
theorem gW.rdP{d:List Case}(h:gW u A d)(l:d.length<=100):ix wX TT u A d:=
 bv4 ii dX oX λk c f=>by
  obtain⟨b,off,e,g,i,j,_⟩:=h.2 k c f
  exact⟨b,off,_,e,ii,λq v a=>by match q,a with
   |0,a=>cases a;exact g
   |1,a=>cases a;exact i
   |2,a=>cases a;exact j
   |q+3,a=>cases a⟩
theorem kC.rdP{w:World}{a:am}{d:go}(h:kC w a d)(f:CY d):ix opE TT w a d:=
 bv4 ii dX (by have:=f.1;omega) λk o g=>by
  obtain⟨b,off,x,i,e,j,l,m,n,p,r,s,_⟩:=h.2 k o g
  exact⟨b,off,_,e,⟨x,i,ii,s.rdP (f.2 o (lf g)).2.2.2.2.1⟩,λq v c=>by match q,c with
   |0,c=>cases c;exact j
   |1,c=>cases c;exact l
   |2,c=>cases c;exact m
   |3,c=>cases c;exact n
   |4,c=>cases c;exact p
   |5,c=>cases c;exact r
   |q+6,c=>cases c⟩
theorem gF.ga{P:Nat->Prop}{u:bI×Int×Bool}(h:gF.F P v u J)(a:CY u.1.ops):GA TT v J.toArray u.1 u.2.1:=by
 obtain⟨b,c,d,d1,f,d2,g,d3,i,d4,rfl,e⟩:=h;exact⟨ii,by simp[yP,ru,Value.oneCell'],⟨b,c,ii,(e v (kb _).ER).rdP a⟩,ii,ii,ii,ii,ii,ii,ii,ii,ii,ii,ii,ii,ii,⟨d,d1,ii⟩⟩
theorem wS.map{α β:Type}{E:nR α}{E':nR β}{P d:Nat->Prop}{w:World}{a:am}{g:List α}(f:α->β)(h:ix E P w a g)(m:∀k,P k->d k)(n:∀x∈g,∀c,E.F P w x c->E'.F d w (f x) c):ix E' d w a (g.map f):=by
 obtain⟨hl,i,⟨h1,o⟩,q⟩:=h;refine⟨ct8,i,⟨cm9,λk y c j r=>?_⟩,λs=>?_⟩
 .rw[na]at j;obtain⟨x,l,rfl⟩:=aH5.1 j;exact n x (lf l) c (o k x c l r)
 obtain⟨b,off,e,p,l⟩:=q (by simpa using s);exact⟨b,off,e,m b p,l⟩
def Zh(S:Wd):List (bI×Int):=S.gs.mapIdx λj x=>(x,bU S.ax j)
theorem bi8(S:Wd)(j:Nat):(Zh S)[j]?=(S.gs[j]?).map λx=>(x,bU S.ax j):=by unfold Zh;rw[as7]
theorem bc3{u:bI×Int}(h:(Zh t)[b]?=u):∃x,t.gs[b]?=some x/\u=(x,bU t.ax b):=by
 grind [bi8]
theorem bi9{u:bI×Int}(h:u∈Zh t):∃(j:Nat) (x:bI),t.gs[j]?=x/\u=(x,bU t.ax j):=by
 grind [List.mem_iff_getElem?,bc3]
structure RdS(w:World)(gl:List (bI×Int))(bl:List Bool)(ll:ce)(dn:List Ex)(ga sa ha da:am):Prop where
 g:ix gE TT w ga gl
 l:ix lvE TT w sa bl
 k:ix lkE TT w ha ll
 d:ix zA TT w da dn
theorem RdS.later{w W:World}{a:List (bI×Int)}{b:List Bool}{c:ce}{e:List Ex}{f h i j:am}(H:RdS w a b c e f h i j)(l:kL w W):RdS W a b c e f h i j:=⟨H.g.later l,H.l.later l,H.k.later l,H.d.later l⟩
theorem St2.rds{c e j f:am}(H:St2 t v u A c e j f)(O:tc t N):RdS u (Zh t) (t.ah.map (·.cK)) (llS t) t.done A e c f:=by
 refine⟨?_,H.s.map (E':=lvE) (·.cK) (λ_ _=>trivial) λs _ i h=>by obtain rfl:i=mg 0 s:=h;exact⟨_,_,_,_,_,_,ii⟩,H.h.mono dX λ_ _ _=>trivial,H.d.mono dX λ_ _ _=>trivial⟩;rw[show Zh t=(glT t).map λa=>(a.1,a.2.1) by apply ad9;intro k;unfold Zh glT;rw[na,as7,as7,Option.map_map];rfl];refine H.g.map _ (λ_ _=>trivial) λa l i h=>gF.ga h ?_
 obtain⟨k,b⟩:=ae3.1 l;unfold glT at b;rw[as7]at b;obtain⟨x,m,rfl⟩:=aH5.1 b;exact(O.gor k x m).1
structure bo7(gl:List (bI×Int))(bl:List Bool)(ll:ce)(dn:List Ex):Prop where
 gl8:gl.length<=100
 dnl:dn.length<=300000
 st:∀u∈gl,u.2=2/\u.1.ae=0\/u.2=1/\(u.1.ae=14\/u.1.ae=19)
 ord:∀u∈gl,u.1.aH.length<=100
 op:∀u∈gl,u.2=1->∃(j:Nat) (o:cu),u.1.at_=j/\u.1.ops[j]?=o
 lk:∀l∈ll,l= -1
 ow:bg4 bl bl=aZ9 gl gl
 pr:im (gl.map (·.1.ops))
 mks:∀m,MkS gl dn gl m->∃(G J:Nat) (row:go),m.g=G/\m.op=J/\(gl.map (·.1.ops))[G]?=row
 qt:∀l pts M md,(∀m,m∈l↔MkS gl dn gl m)->V.ba9 l pts->V.Rp (gl.map (·.1.ops)) l pts pts M md->∀(g:Nat) u,gl[g]?=some u->u.2=1->u.1.call≠0->¬V.aZ6 M g (V.Cu (V.aP u.1) (V.Lg md u.1.call))
theorem bh6(S:Wd):∀j,bg4 (S.ah.map (·.cK)) j=V.bh3 S j
 |0=>rfl
 |j+1=>by unfold bg4 V.bh3 V.bd7;rw[bh6 S j,na]
theorem bl9(S:Wd):∀j,aZ9 (Zh S) j=V.br3 S j
 |0=>rfl
 |j+1=>by unfold aZ9 V.br3;rw[bl9 S j,bi8,Option.map_map];rfl
theorem bv5{p:be}{w:ce}(R:V.xK p w b t)(d:cE t.ax=[])(f:im p)(D:b<=300000):bo7 (Zh t) (t.ah.map (·.cK)) (llS t) t.done:=by
 obtain⟨E,I⟩:=R.1.inv;have F:(Zh t).length=t.gs.length:=by unfold Zh;simp
 have i:(Zh t).map (·.1.ops)=p:=by rw[<-R.1.ops];apply ad9;grind [bi8]
 have n:∀m,MkS (Zh t) t.done (Zh t).length m->V.bx4 t m:=λm h=>by
  rcases h with h|⟨g,u,_,q,_,rfl⟩
  .exact .inl h
  obtain⟨x,a,rfl⟩:=bc3 q;exact .inr ⟨g,x,a,ii⟩
 refine⟨by have:=I.n8;omega,by have:=R.1.len;omega,λu c=>?_,λu c=>?_,λu c k=>?_,λl e=>?_,?_,by rw[i];exact f,λm h=>?_,λl y M G e T r g u c k z=>?_⟩
 .obtain⟨j,x,a,rfl⟩:=bi9 c;have:=(R.rest d a).2.2;simp only;omega
 .obtain⟨j,x,a,rfl⟩:=bi9 c;have:=(R.2.1.1.g2 j x a).sh.1;simp only;omega
 .obtain⟨j,x,a,rfl⟩:=bi9 c;have L:=I.loc j x a;have q:=(R.rest d a).2.2;simp only at k;have s:=bU3;have A:=L.JY.1;exact⟨x.at_.toNat,_,ci9,fv ci9⟩
 .unfold llS at e;obtain⟨b,_,rfl⟩:=ak3.1 e;unfold owner idx;split
  .cases h:t.aq[(b:Int).toNat]? with
   |none=>rfl
   |some v=>exact R.bv3 d v (lf h)
  rfl
 .grind [bh6,bl9,V.xK.bE4]
 .rw[i];rcases n m h with h|⟨g,x,a,rfl⟩
  .obtain⟨g,j,l,o,s,A,B,_⟩:=R.1.marks m h;grind
  have:=(I.loc g x a).JY.1;exact⟨g,x.at_.toNat,x.ops,ii,by show x.at_=_;omega,by rw[<-R.1.ops,na,a];rfl⟩
 obtain⟨x,a,rfl⟩:=bc3 c;rw[i]at r;have A:qu x g 0∈l:=(e _).2 (.inr ⟨g,_,(um c),c,z,ii⟩);obtain⟨H,B⟩:=ae3.1 A;have s:∀m∈l,V.bx4 t m:=λm h=>n m ((e m).1 h)
 have K:=R.pk d a k s;have C:=V.quiet K T B (λm h f=>(R.hre d (s m h) f).2) r;exact C
variable{v0 v1 v2 vg vh vs v6 v7 v8 v9 v10 vd:Value}
theorem bo0{q:List (bI×Int)}{bl:List Bool}{ll:ce}{C:List Ex}{sa ha Z:am}(gc dc:Nat)(w:World)(H:RdS w q bl ll C A sa ha Z)(O:bo7 q bl ll C):gt 36 #[Uo v0 v1 v2 (A,q.length,gc) vh vs v6 v7 v8 v9 v10 (Z,C.length,dc)] w λe r=>(∃i,e=Value.tuple #[I i,B false])/\kL w r:=by
 have RH:=H.g.1;obtain⟨p,X⟩:=dC (q.map (·.1.ops));have a0:Hid (∀W v,v=Uo v0 v1 v2 (.slice A q.length gc) vh vs v6 v7 v8 v9 v10 (.slice Z C.length dc)->kL w W->gt 66 #[v] W λe r=>∃a c n,e=.returned (.slice a n c)/\n=p.length/\Own bc2 50 TT W W r (.slice a n c) p):=λW v K hW=>by rw[K,X];exact(bq9 q A gc W W (H.g.later hW)).mono λe r ⟨a,c,D,y⟩=>⟨a,c,_,D,ii,y⟩
 have a1:Hid (∀W v,v=Uo v0 v1 v2 (.slice A q.length gc) vh vs v6 v7 v8 v9 v10 (.slice Z C.length dc)->kL w W->gt 68 #[v] W λe r=>∃a c n l,e=.returned (.slice a n c)/\n=List.length l/\(∀m,m∈l↔MkS q C q.length m)/\l.length<=400000/\Own zA 46 TT W W r (.slice a n c) l):=λW v K hW=>by rw[K];refine(bn8 q C A Z gc dc W W (H.g.later hW) (H.d.later hW) (kb _) (by have:=O.gl8;have:=O.dnl;omega) (λu G=>by have:=O.st u G;omega) λ_ _=>trivial).mono ?_;rintro e r ⟨a,c,l,D,y,E,N⟩;exact⟨a,c,_,l,D,ii,y,by have:=O.gl8;have:=O.dnl;omega,N⟩
 have a2:Hid (∀W pa pc la lc l n m,ix bc2 TT W pa p->ix zA TT W la l->(∀m,m∈l↔MkS q C q.length m)->n=p.length->m=List.length l->l.length<=400000->gt 67 #[.slice pa n pc,.slice la m lc] W (bz8 p l W)):=λW pa pc la lc l n m D y E N h5 h6=>by rw[N,h5];exact bm2 p l pa la pc lc W D y (by rw[X];exact O.pr) (λm hm=>by rw[X];exact O.mks m ((E m).1 hm)) h6
 have a3:Hid (∀l s M z,(∀m,m∈l↔MkS q C q.length m)->V.ba9 l s->V.Rp p l s s.length M z->∀(g:Nat) u,q[g]?=some u->u.2=1->u.1.call≠0->¬V.aZ6 M g (V.Cu (V.aP u.1) (V.Lg z u.1.call))):=by rw[X];exact O.qt
 have Yr:Hid (∀(g:Nat) u,q[g]?=some u->u.2=1->0<=u.1.at_/\V.Ug p ⟨g,u.1.at_,u.1.call,0,0,0,0,0,{}⟩=some (V.aP u.1)):=λg u G D=>by obtain⟨j,o,y,E⟩:=O.op u (lf G) D;refine⟨oX,?_⟩;rw[bu9 y E,X];unfold V.Ug;simp only[oU];rw[na,G,y];simpa using E
 have a6:=ag H.g;obtain⟨Q,hQ⟩:∃Q:Ending->World->Prop,Q=λe r=>(∃i,e=.returned (.tuple #[I i,B false]))/\kL w r:=⟨_,ii⟩
 have HQ:Hid (∀i r,kL w r->Q (.returned (.tuple #[I i,B false])) r):=λi r h=>by rw[hQ];exact⟨⟨i,ii⟩,h⟩
 rw[<-hQ];clear H O X hQ;go_enter func36,ntmps36;go_upto_region 1 with fail
 generalize hW:World.alloc w _=W1;obtain⟨L,S,⟨K1,_⟩,_⟩:=bN5;clear hW S;go_upto_region 2 with(go_at_call 66;refine(a0 _ _ cj4 L).mono ?_;rintro e w3 ⟨a,c,n,rfl,hn,E⟩;have l3:=E.1;have Iq:=ag (dO hn E);clear hn E)
 have Zp:=bN7
 go_upto_region 3 with(first
  |(go_at_call 68;refine(a1 _ _ cj4 Zp).mono ?_;rintro e w4 ⟨la,lc,m,l,rfl,hm,hl,a4,N⟩;have l4:=N.1;have t:=ag (dO hm (dO hl (dO a4 N)));clear hm hl a4 N)
  |(go_at_call 67;refine(a2 _ _ _ _ _ l _ _ (Iq.out.2.rd (kL.ER (l3.trans l4)) (λ_ _=>trivial) λk _ h=>Below.block l4 k h) (t.out.2.2.2.rd (kL.ER l4) (λ_ _=>trivial) λ_ _ _=>rfl) t.out.2.1 Iq.out.1 t.out.1 t.out.2.2.1).mono ?_;rintro e w5 ⟨ca,cc,wa,wc,ma,mc,M,z,a7,rfl,l5,hR⟩;have HR:=ag hR;clear hR))
 have F:=l4.trans l5;have a8:=Zp.trans F;generalize hW:World.alloc w5 _=W5;obtain⟨Y,S5,⟨K5,_⟩,_⟩:=bN5;clear hW S5;have l0:=a8.trans Y;have mT:=(l3.trans F).trans Y;by_cases h0:a7=0
 case neg=>
  go_wp2;exact HQ _ _ l0
 subst h0;obtain⟨s,hT,a5,hM,T⟩:=HR.out ii;have a9:Hid (∀(g:Nat) u,q[g]?=some u->u.2=1->u.1.call≠0->¬V.aZ6 M g (V.Cu (V.aP u.1) (V.Lg z u.1.call))):=a3.out l s M z t.out.2.1 hT a5;have ab:Hid (∀W,kL W5 W->ix bc2 TT W a p):=λW hW=>Iq.out.2.rd (kL.ER ((l3.trans F).trans (Y.trans hW))) (λ_ _=>trivial) λk _ h=>Below.block (F.trans (Y.trans hW)) k h
 have ad:Hid (∀(g:Nat) u W v U,q[g]?=some u->u.2=1->v=.agg (LM ⟨g,u.1.at_,u.1.call,0,0,0,0,0,{}⟩)->U=.slice a n c->kL W5 W->gt 69 #[U,v,.slice ma z.length mc] W λe r=>∃x J,e=.returned (qG (V.Cu (V.aP u.1) (V.Lg z u.1.call)) x J)/\Own wX 52 TT W W r (.slice x (V.aP u.1).cases.length J) (V.Cu (V.aP u.1) (V.Lg z u.1.call)).cases):=λg u W v U D y K Yv hW=>by rw[K,Yv,Iq.out.1];obtain⟨q1,q2⟩:=Yr.out g u D y;exact bh2 p _ z _ a ma c mc W W (ab W hW) (T.later (Y.trans hW)) (kL.ER (kb _)) q2 ⟨sX,q1⟩
 have ae:Hid (∀(g:Nat) o x J W v U,v=qG o x J->U=.agg #[.slice ca M.MP.length cc,.slice wa M.ws.length wc]->ix wX TT W x (cu.cases o)->kL W5 W->gt 70 #[U,I g,v] W (aU1 W (V.aZ6 M g o))):=λg o x J W v U K Yv hx hW=>by rw[K,Yv];exact bf0 M g o ca wa x cc wc J W (hM.later (Y.trans hW)) hx
 have UR:=T.1;clear hT a5 hM T HR a3 Yr a2 a1 a0;go_wp2;go_loopw [26] (λi wr=>∃j:Nat,j<=q.length/\i=.int .i64 j/\kL W5 wr) (λi _=>q.length-(intOf i).toNat)
 case atStart=>exact⟨0,wn _,ii,sX⟩
 obtain⟨j,hj,rfl,hb⟩:=hrel;by_cases dD:j<q.length
 .obtain⟨u,G⟩:∃u,q[j]?=some u:=⟨_,fv dD⟩;obtain⟨b,off,f,rfl,GG,R⟩:=aZ8 a6 G;have HG:=ag GG;have HU:=ag G;have R2:=R wr (l0.trans hb);clear G GG R
  go_upto_region 8 with(first
   |(refine wpList_load_mid ii 100 (.tmp 29) ii b (off+j*25) ii f R2 cQ.1 cj6 ?_)
   |(refine df ii 100 (.tmp 9) (.tmp 30) ii wr.heap.size ii f ii ii cj6 co1 HG.out.one ?_))
  generalize hW:World.alloc wr _=W2;obtain⟨L2,S2,⟨K2,_⟩,HX⟩:=bN5;have b2:=bN6;have hz:=HG.out.size;have k1:∀W,kL W2 W->W.cell? ⟨wr.heap.size,1,none⟩=some (I u.1.at_):=λW h=>(K2 W h 1 oX).trans HG.out.at_
  have k3:∀W,kL W2 W->W.cell? ⟨wr.heap.size,3,none⟩=some (I u.2):=λW h=>(K2 W h 3 oX).trans HG.out.st
  have k5:∀W,kL W2 W->W.cell? ⟨wr.heap.size,5,none⟩=some (I u.1.call):=λW h=>(K2 W h 5 oX).trans HG.out.call
  clear hW K2 hz S2 HX R2;by_cases e1:u.2=1
  case neg=>
   exact cg9
  by_cases e2:u.1.call=0
  case pos=>
   exact cg9
  have HN:=ag (a9.out j u HU e1 e2);have HE:=ag e1;go_upto_region 10 with(go_at_call 69;refine(ad j u _ _ _ HU HE cj4 cj4 b2).mono ?_;rintro e w6 ⟨x,J,rfl,h6⟩;have l6:=h6.1;have SD:=ag h6;clear h6)
  generalize hW:World.alloc w6 _=W6;obtain⟨L6,S6,⟨K6,_⟩,_⟩:=bN5;have b6:=b2.trans (l6.trans L6);clear hW S6;go_wp2_with (go_at_call 70;refine(ae j (V.Cu (V.aP u.1) (V.Lg z u.1.call)) x J _ _ _ cj4 cj4 (SD.out.rd (kL.ER (l6.trans L6)) (λ_ _=>trivial) λk _ h=>Below.block L6 k h) b6).mono ?_;rintro e w7 ⟨bb,rfl,af,l7⟩;obtain rfl:bb=false:=(by cases bb;rfl;exact aX (af.1 ii) HN));exact⟨⟨j+1,oX,cj8,b6.trans l7⟩,cj2⟩
 go_wp2;exact HQ _ _ (l0.trans hb)
variable{v0 v1 v2 vg vh vs v6 v7 v8 v9 v10 vd:Value}
abbrev STB(v0 v1 v2 v6 v7 v8 v9 v10:Value)(a b c d:Option Addr)(e f g h i j k l:Nat):Value:=Uo v0 v1 v2 (a,e,f) (b,g,h) (c,i,j) v6 v7 v8 v9 v10 (d,k,l)
section
variable{gl:List (bI×Int)}{bl:List Bool}{ll:ce}{dn:List Ex}{sa ha da:am}
theorem bh8{gc hc sc mn dc:Nat}(H:RdS u gl bl ll dn A sa ha da)(O:bo7 gl bl ll dn)(f:b=gl)(h:z=ll)(i:X=bl){V0:Value}(j:V0=STB v0 v1 v2 v6 v7 v8 v9 v10 A ha sa da b gc z hc X sc mn dc):∃n:Nat,Hid (∀W v,v=V0->kL u W->gt 16 #[v] W λe a=>e=I n/\kL W a)/\Hid (∀W v,v=V0->kL u W->gt 17 #[v] W λe a=>e=I n/\kL W a)/\Hid (∀W v,v=V0->kL u W->gt 18 #[v] W λe a=>e=I 0/\kL W a):=by
 subst f h i j;refine⟨aZ9 gl gl.length,λW v c d=>?_,λW v c d=>?_,λW v c d=>?_⟩
 .rw[c,<-O.ow];exact bn9 bl sa sc W (H.l.later d)
 .rw[c];exact bq8 gl A gc W (H.g.later d) O.gl8 O.ord O.op
 rw[c];exact bi6 ll ha hc W (H.k.later d) O.lk
theorem bo1(f q r o:Nat)(w:World)(H:RdS w gl bl ll dn A sa ha da)(O:bo7 gl bl ll dn):gt 15 #[STB v0 v1 v2 v6 v7 v8 v9 v10 A ha sa da gl f ll q bl r dn o] w (eL (B true) (kL w)):=by
 have RH:=H.g.1;obtain⟨F,k⟩:∃v,v=STB v0 v1 v2 v6 v7 v8 v9 v10 A ha sa da gl.length f ll.length q bl.length r dn.length o:=⟨_,ii⟩;have G:∀u∈gl,u.2≠0:=λu l=>by have:=O.st u l;omega
 obtain⟨n,s,t,x⟩:=bh8 (gc:=f) (hc:=q) (sc:=r) (mn:=dn.length) (dc:=o) H O ii ii ii k;have y:Hid (∀W v,v=F->kL w W->gt 35 #[v] W λe z=>(∃a c,e=.returned (.slice a 0 c))/\kL W z):=λW v C hW=>by rw[C,k];exact bg1 gl A f W (H.g.later hW) G
 have U:Hid (∀W v,v=F->kL w W->gt 36 #[v] W λe z=>(∃i,e=.returned (.tuple #[I i,B false]))/\kL W z):=λW v C hW=>by rw[C,k];exact bo0 f o W (H.later hW) O
 have X:=ag O.st;have D:=ag H.g;have m:=ag k;clear H O G k;go_enter func15,ntmps15;go_upto_region 1 with fail
 generalize hW:World.alloc w _=Y;obtain⟨L,S,⟨K1,_⟩,_⟩:=bN5;clear hW S;go_upto_region 3 with(go_at_call 35;refine(y _ _ m.out.symm L).mono ?_;rintro e Z ⟨⟨a,c,rfl⟩,l3⟩)
 have J:=bN7;go_wp2;go_loopw [14] (λi wr=>∃j:Nat,j<=gl.length/\i=.int .i64 j/\kL Z wr) (λi _=>gl.length-(intOf i).toNat)
 case atStart=>exact⟨0,wn _,ii,sX⟩
 obtain⟨j,hj,rfl,hb⟩:=hrel;by_cases dD:j<gl.length
 .obtain⟨u,l⟩:∃u,gl[j]?=some u:=⟨_,fv dD⟩;obtain⟨b,off,d,rfl,K,R⟩:=aZ8 D l;have HG:=ag K;have Q:=X.out u (lf l);have M:=R wr (J.trans hb);clear l K R
  go_upto_region 6 with(first
   |(refine wpList_load_mid ii 100 (.tmp 16) ii b (off+j*25) ii d M cQ.1 cj6 ?_)
   |(refine df ii 100 (.tmp 4) (.tmp 17) ii wr.heap.size ii d ii ii cj6 co1 HG.out.one ?_))
  generalize hW:World.alloc wr _=N;obtain⟨L2,S2,⟨p,_⟩,T⟩:=bN5;have b2:=bN6;have hz:=HG.out.size;have k2:∀W,kL N W->W.cell? ⟨wr.heap.size,2,none⟩=some (I u.1.ae):=λW h=>(p W h 2 oX).trans HG.out.pl
  have k3:∀W,kL N W->W.cell? ⟨wr.heap.size,3,none⟩=some (I u.2):=λW h=>(p W h 3 oX).trans HG.out.st
  clear hW p hz S2 T M;rcases Q with⟨E,h2⟩|⟨E,h2|h2⟩
  all_goals
   rw[E]at k3;rw[h2]at k2;clear E h2;go_wp2;exact⟨⟨j+1,oX,cj8,b2⟩,cj2⟩
 obtain⟨wq,rfl⟩:∃W,W=wr:=⟨_,ii⟩;have K:=J.trans hb;have E:=l3.trans hb;go_upto_region 10 with(go_at_call 36;refine(U _ _ m.out.symm K).mono ?_;rintro e d ⟨⟨i5,rfl⟩,M⟩)
 have p:=K.trans M;have mT:=E.trans M;have a0:∀W,kL d W->kL Y W:=λW h=>mT.trans h
 go_region_held3 (λW=>kL d W) (repeat(first|with_reducible exact kb _|with_reducible exact z8|with_reducible exact z7|with_reducible exact z6|with_reducible refine m8 ?_))
  (first
   |(go_at_call 16;refine(s.out _ _ m.out.symm (p.trans cp4)).mono ?_;rintro e y6 ⟨rfl,N⟩;have z6:kL d y6:=kL.trans cp4 N;clear N)
   |(go_at_call 17;refine(t.out _ _ m.out.symm (p.trans cp6)).mono ?_;rintro e y7 ⟨rfl,Q⟩;have z7:kL d y7:=kL.trans cp6 Q;clear Q)
   |(go_at_call 18;refine(x.out _ _ m.out.symm (p.trans cp5)).mono ?_;rintro e y8 ⟨rfl,T⟩;have z8:kL d y8:=kL.trans cp5 T;clear T))
 all_goals
  go_wp2;go_ret;exact⟨cj4,p.trans (by repeat(first|with_reducible exact kb _|with_reducible exact z8|with_reducible exact z7|with_reducible exact z6|with_reducible refine m8 ?_))⟩
end
theorem An.more{p:be}(E:An v u p h b z X G D t)(a:kL u f):An v f p h b z X G D t:=
 ⟨E.row,E.below.trans (a.mono E.below.size),E.Rl,(a.block _ (dh E.eng).1).trans E.eng,E.bj.below a,E.ne⟩
theorem bj1(S:Wd):(Zh S).length=S.gs:=by unfold Zh;simp
theorem bo8(S:Wd):(llS S).length=S.au:=by unfold llS;simp
theorem bo2(p:be)(n:Nat)(hn:n=p)(a:am)(ca:Nat)(x y:Int)(X:ce)(da:am)(o cd:Nat)(fX:o=X)(picks:ce)(pa:am)(f pc:Nat)(Fb:f=picks)(kk:Nat)(kE:kk<=255)(w:World)(h1:aH1 w a p)(hd:Rd .u16 w da X)(hr:∀z∈X,0<=z/\z<=65535)(hz:∀z∈picks,-9223372036854775808<=z/\z<=9223372036854775807)(jF:Rd .i64 w pa picks):gt 5 #[.agg #[(a,n,ca),x,y,(da,o,cd)],(pa,f,pc),.int .u8 kk] w (oV (kL w)):=by
 have ai:n<=9223372036854775807:=cx4
 have Dx:o<=9223372036854775807:=by rw[fX];exact hd.1
 have Io:f<=9223372036854775807:=by rw[Fb];exact jF.1
 have a2:Hid (∀W:World,gt 6 #[] W λe c=>e=.returned (.bool true)/\kL W c):=λW=>JR W
 have Ah:Hid (∀W v,v=.agg #[.slice a n ca,I x,I y,.slice da o cd]->kL w W->gt 8 #[v,.slice pa f pc] W λe c=>e=.returned (.bool (okB p x y o f))/\kL W c):=λW v hv hW=>by rw[hv];exact Rc p n hn a ca x y da o cd pa f pc Dx Io W (h1.below hW cG)
 have Yr:Hid (∀i W v,v=.agg #[.slice a n ca,I x,I y,.slice da o cd]->kL w i->kL i W->gt 7 #[v,.slice pa f pc] W λe c=>kL i c/\((okB p x y o f=false/\e=.returned (.tuple #[.pointer none,.bool false]))\/
   (okB p x y o f=true/\o<=300/\f<=300/\im p=true/\∃d r F m S,e=.returned (.tuple #[.pointer (some ⟨d,0,none⟩),.bool true])/\An i c p X 0 d r F m S))):=λi W v hv hA hW=>by
  rw[hv];refine(Eb p n hn a ca x y X da o cd fX pa f pc Dx Io W (h1.below (hA.trans hW) cG) (λ_=>hd.below (hA.trans hW) cG) hr).mono ?_;rintro e c ⟨mz,h⟩;have Hl:=hW.trans mz;refine⟨Hl,?_⟩;rcases h with h|⟨Y,N,most,F,m,d,r,rfl,rfl,gI,j,rfl,a0,R,he,_,cM⟩
  .exact .inl h
  have a6:=Y;unfold okB at Y;simp only[qs,lm]at Y;exact .inr ⟨a6,Y.1.2,Y.2,j,d,r,F,m,_,ii,An.start j (hn▸gI) oX Hl (jm hW.size a0) R he cM⟩
 obtain⟨mo,Kk⟩:∃mo:Nat,mo=(n+kk % 8)*(V.DY p+1):=⟨_,ii⟩;have HP:Hid (im p=true->n<=8/\∀l∈p,CY l):=λj=>⟨by rw[hn];exact(kH j).2.2.len,aP6 h1 j⟩
 have a1:Hid (∀W,kL w W->im p=true->gt 12 #[.slice a n ca,I (n+kk % 8:Nat)] W λe c=>e=.returned (I mo)/\kL W c):=λW hW j=>by have P:=(kH j).2.2;rw[Kk];exact aL7 p n hn P a ca _ ⟨by have:=(kH j).1.1;omega,by have:=P.len;omega⟩ W (h1.below hW cG)
 have GQ:Hid (∀i c d r F m S,kL w i->An i c p X 0 d r F m S->o<=300->f<=300->gt 9 #[.pointer (some ⟨d,0,none⟩),.slice pa f pc] c λe w2=>∃q k S2 m2,e=.returned (I q)/\k<=300/\An i w2 p X k d r F m2 S2):=λi c d r F m S hA E h2 h3=>
  G1 E oX hr picks f Fb h3 pa pc hz (jF.below hA cG)
 have GN:Hid (∀i k W d r F m S,im p=true->o<=300->k<=300->An i W p X k d r F m S->gt 11 #[.pointer (some ⟨d,0,none⟩),.slice none 0 0,I (n+kk % 8:Nat),I mo] W λe w2=>∃la lj lc k2 S2 m2,e=.returned (.tuple #[.slice la lj lc,.bool true])/\k2<=300000/\cE S2.ax=[]/\An i w2 p X k2 d r F m2 S2):=λi k W d r F m S j h2 hk E=>by rw[Kk];exact aL8 E oX hr (kH j).2.2 hk (kk % 8) oX _ oX 0
 clear h1 hd jF hn fX Fb hr hz Kk;go_enter func5,ntmps5;go_upto_region 1 with fail
 generalize hW:World.alloc w _=W1;obtain⟨L,S,⟨K1,_⟩,_⟩:=bN5;clear hW S
 go_upto_region 4 with(first
  |(go_at_call 6;refine(a2 _).mono ?_;rintro e w1 ⟨rfl,l1⟩)
  |(go_at_call 7;refine(Yr W1 _ _ cj4 L l1).mono ?_;rintro e w2 ⟨l2,h⟩;rcases h with⟨Y,rfl⟩|⟨Y,a3,U3,j,d,r,F,m,S,rfl,E⟩))
 .go_wp2_with (go_at_call 8;refine(Ah _ _ cj4 (L.trans l2)).mono ?_;rintro e w3 ⟨rfl,l3⟩);go_ret;exact⟨by simp[Y],L.trans (l2.trans l3)⟩
 have HE:=ag E;have Z:=ag j;obtain⟨ak,rS⟩:=HP.out j;have Rm:=ag rS;clear E Y j rS Ah Yr a2;go_upto_region 7 with(go_at_call 9;refine(GQ _ _ _ _ _ _ _ L HE a3 U3).mono ?_;rintro e w3 ⟨q,k,S2,m2,rfl,hk,E⟩;have l3:kL W1 w3:=E.below;obtain⟨a4,HK⟩:=dA E hk;clear E hk)
 go_upto_region 8 with fail
 have e8:((n+kk % 8:Nat):Int)=n+(kk:Int) % 8:=oX
 rw[e8]at a1 GN
 go_upto_region 11 with(first
  |(go_at_call 12;refine(a1 _ (L.trans l3) Z).mono ?_;rintro e w4 ⟨rfl,l4⟩;have a5:=ag (a4.out.more l4);clear l4)
  |(go_at_call 11;refine(GN _ k _ _ _ _ m2 S2 Z a3 HK a5).mono ?_;rintro e w5 ⟨la,lj,lc,k5,b,m5,rfl,Qs,ta,E⟩;have l5:kL W1 w5:=E.below;have KP:=ag (dO E (dO Qs ta));clear E Qs ta))
 have pI:Hid (gt 10 #[.pointer (some ⟨d,0,none⟩)] w5 λe c=>∃D s G H J K M t O A Q T U C,e=.returned (.agg #[I b.dV,I b.eT,I b.av,.slice O b.gs.length A,.slice U b.au.length C,.slice D b.ah.length s,.slice Q b.gs.length T,.slice G b.Eg.aK.length H,I b.Eg.cO,.slice J b.UB.length K,I b.drawn,.slice M b.done.length t])/\kL w5 c/\RdS c (Zh b) (b.ah.map (·.cK)) (llS b) b.done O D U M):=by obtain⟨ls,jf⟩:=KP.out.1.row.Um Rm (by have:=KP.out.2.1;omega);refine(pU KP.out.1.bj jf KP.out.1.eng).mono ?_;rintro e c ⟨O,U,D,Q,G,J,M,A,C,s,T,H,K,t,rfl,hr,_⟩;exact⟨D,s,G,H,J,K,M,t,O,A,Q,T,U,C,ii,hr.l,hr.rds jf⟩
 have HO:=ag (bv5 KP.out.1.row KP.out.2.2 Z KP.out.2.1);clear a1 GN GQ HE a4 a5 KP Rm Z HK HP e8
 go_upto_region 12 with(first
  |(go_at_call 10;refine pI.out.mono ?_;rintro e w6 ⟨D,s,G,H,J,K,M,t,O,A,Q,T,U,C,rfl,l6,jF⟩;have CZ:=ag jF;clear jF)
  |(refine df ii 41 (.tmp 12) (.tmp 50) ii w6.heap.size ii #[I b.dV,I b.eT,I b.av,.slice O b.gs.length A,.slice U b.au.length C,.slice D b.ah.length s,.slice Q b.gs.length T,.slice G b.Eg.aK.length H,I b.Eg.cO,.slice J b.UB.length K,I b.drawn,.slice M b.done.length t] ii ii nQ.2 ii cj0 ?_))
 obtain⟨N,a7,a8,a9⟩:=bh8 (gc:=A) (hc:=C) (sc:=s) (mn:=b.done.length) (dc:=t) CZ HO (bj1 b).symm (bo8 b).symm (ko _).symm (V0:=.agg #[I b.dV,I b.eT,I b.av,.slice O b.gs.length A,.slice U b.au.length C,.slice D b.ah.length s,.slice Q b.gs.length T,.slice G b.Eg.aK.length H,I b.Eg.cO,.slice J b.UB.length K,I b.drawn,.slice M b.done.length t]) ii;have ab:Hid (∀W v,v=.agg #[I b.dV,I b.eT,I b.av,.slice O b.gs.length A,.slice U b.au.length C,.slice D b.ah.length s,.slice Q b.gs.length T,.slice G b.Eg.aK.length H,I b.Eg.cO,.slice J b.UB.length K,I b.drawn,.slice M b.done.length t]->kL w6 W->gt 14 #[v] W λe c=>e=.returned (B true)/\kL W c):=λW v hv hW=>by rw[hv];have:=br1 (v0:=I b.dV) (v1:=I b.eT) (v2:=I b.av) (vh:=.slice U b.au.length C) (vs:=.slice D b.ah.length s) (v6:=.slice Q b.gs.length T) (v7:=.slice G b.Eg.aK.length H) (v8:=I b.Eg.cO) (v9:=.slice J b.UB.length K) (v10:=I b.drawn) (vd:=.slice M b.done.length t) (Zh b) O A W (CZ.out.g.later hW) (λu hu=>by have:=HO.out.st u hu;omega);rw[bj1]at this;exact this
 have ad:Hid (∀W v,v=.agg #[I b.dV,I b.eT,I b.av,.slice O b.gs.length A,.slice U b.au.length C,.slice D b.ah.length s,.slice Q b.gs.length T,.slice G b.Eg.aK.length H,I b.Eg.cO,.slice J b.UB.length K,I b.drawn,.slice M b.done.length t]->kL w6 W->gt 15 #[v] W λe c=>e=.returned (B true)/\kL W c):=λW v hv hW=>by rw[hv];have:=bo1 (v0:=I b.dV) (v1:=I b.eT) (v2:=I b.av) (v6:=.slice Q b.gs.length T) (v7:=.slice G b.Eg.aK.length H) (v8:=I b.Eg.cO) (v9:=.slice J b.UB.length K) (v10:=I b.drawn) A C s t W (CZ.out.later hW) HO;rw[bj1,bo8,ko]at this;exact this
 generalize hW:World.alloc w6 _=W7;obtain⟨L7,S7,⟨K7,_⟩,_⟩:=bN5;have ae:=(L.trans l5).trans (l6.trans L7);clear hW S7 pI CZ HO K1
 go_region_held3 (λW=>kL W7 W) (repeat(first|with_reducible exact kb _|with_reducible exact z8|with_reducible exact z7|with_reducible exact z6|with_reducible exact z5|with_reducible exact z4|with_reducible refine m8 ?_))
  (first
   |(go_at_call 14;refine(ab.out _ _ ii (L7.trans cm2)).mono ?_;rintro e y4 ⟨rfl,l4⟩;have z4:kL W7 y4:=kL.trans cm2 l4;clear l4)
   |(go_at_call 15;refine(ad.out _ _ ii (L7.trans cm3)).mono ?_;rintro e y5 ⟨rfl,l5⟩;have z5:kL W7 y5:=kL.trans cm3 l5;clear l5)
   |(go_at_call 16;refine(a7.out _ _ ii (L7.trans cm4)).mono ?_;rintro e y6 ⟨rfl,l6⟩;have z6:kL W7 y6:=kL.trans cm4 l6;clear l6)
   |(go_at_call 17;refine(a8.out _ _ ii (L7.trans cm5)).mono ?_;rintro e y7 ⟨rfl,l7⟩;have z7:kL W7 y7:=kL.trans cm5 l7;clear l7)
   |(go_at_call 18;refine(a9.out _ _ ii (L7.trans cm6)).mono ?_;rintro e y8 ⟨rfl,l8⟩;have z8:kL W7 y8:=kL.trans cm6 l8;clear l8))
 all_goals
  go_wp2;go_ret;exact⟨cj4,ae.trans (by repeat(first|with_reducible exact kb _|with_reducible exact z4|with_reducible exact z5|with_reducible exact z6|with_reducible exact z7|with_reducible exact z8|with_reducible refine m8 ?_))⟩
namespace wholeQuiet
open Go.ChangeShapes Go.WideShapes Go.ChangeAt Go.Deep
section
variable{H:Type}{enc:TypeId×Value->H}
theorem bx7{r:Reach}{v:Value}{d:DataW H}{p:List MemPlace}(e:Value.okWide prog u r b 5 v)(g:DataW.Trod enc prog u 0 (λ_=>true) true 5 v d p):∃k:Nat,v=.int .u8 k/\k<=255:=by
 have a:prog.underlying 5=some (.int .u8):=kX
 obtain⟨n,rfl⟩:=okWide_int a e;obtain⟨f,i⟩:=g;obtain⟨m,c,_,j⟩:=DataW.trod_int a (by simpa[Value.cells]using i);simp at c;subst c;simp[Lit.wf,IntKind.min,IntKind.max,IntKind.signed,IntKind.bits]at j;exact⟨n.toNat,by rw[Int.toNat_of_nonneg oX],oX⟩
end
theorem lifted(D:Os)(started:D.Started)(H:Type)(b:TypeId×Value->H):ReturnsInHanded {} Tryz.checked D 5 .any (Rows.wholeQuietSpec.pre6 b prog Tryz.f5 Rows.wholeQuietRow.domain false) (Rows.wholeQuietSpec.post b prog Tryz.f5 false true false false):=by
 refine returnsInHanded_of_change (C:=Tryz.checked) own started kX func5
  (ChangeSpec.witness6 (enc:=b) (C:=Tryz.checked) false ⟨#[],#[.agg #[(),I 0,I 0,()],(),.int .u8 0],[]⟩ 16 kX kX kX kX) ?_
 intro W J args K gs f E F _ _;have g:∀(j:Nat) t v,Tryz.f5.params[j]?=some t->args[j]?=some v->Value.okWide prog W .any J t v:=E;have k:=F;obtain⟨p,q,c,L,rfl,_,_⟩:=F;have G:DataW.TrodAll b prog W 0 (λ_=>true) true Tryz.f5.params.toList args.toList K p:=c;rw[Tryz.params5]at G g;obtain⟨v0,M,d0,N,O,q0,Q,rfl,rfl,l,R⟩:=trodAll_cons G;obtain⟨v1,S,d1,T,U,q1,rfl,rfl,rfl,o,X⟩:=trodAll_cons R;obtain⟨v2,Y,d2,Z,p2,q2,rfl,rfl,rfl,r,r2⟩:=trodAll_cons X;obtain⟨rfl,rfl,rfl⟩:=trodAll_nil r2;obtain rfl:args=#[v0,v1,v2]:=by cases args;simp_all
 obtain⟨rfl,rfl⟩:=trodVars_none L;have s:∀x∈O,x.block<W:=by obtain⟨m,d⟩:=l;exact DataW.trod_lt m _ _ _ d
 obtain⟨a,n,ca,x,y,da,nd,cd,rfl,pl,UB,hn,u,fX,w,wd⟩:=JJ (g 0 27 v0 ii ii) l;have z:∀x∈U,x.block<W:=by obtain⟨m,d⟩:=o;exact DataW.trod_lt m _ _ _ d
 obtain⟨pa,np,pc,rfl,picks,Fb,A,wk⟩:=bp7 (g 1 28 v1 ii ii) o;have B:∀x∈p2,x.block<W:=by obtain⟨m,d⟩:=r;exact DataW.trod_lt m _ _ _ d
 obtain⟨kk,rfl,kE⟩:=bx7 (g 2 5 v2 ii ii) r;clear c E;refine(bo2 pl n hn a ca x y UB da nd cd fX picks pa np pc Fb kk kE W u w wd wk A).mono λe W' ⟨he,i⟩=>?_
 subst he;exact⟨_,ii,_,_,_,[],_,[],k,trodAll_mk1 (shut_bool underlying4 _),(trodAll_cons_mk (Below.trod laidOut kX (az6 kX) l i s) (trodAll_cons_mk (Below.trod laidOut kX (az6 kX) o i z) (trodAll_cons_mk (Below.trod laidOut kX (az6 kX) r i B) trodAll_mk0))),ii,i.frame _,λh=>ck3⟩
theorem aV5:Rows.wholeQuietRow.holds Tryz.pinned (OpenSpec.ofChange Rows.wholeQuietSpec):=
 OpenClaim.holds_of_wide 5 Tryz.f5 ii ii ii ii ii ii ii ⟨ii,ii,ii,ii,ii⟩ ii ii ii ii ii kX func5 kX
  (az6 kX) (by unfold Func.isWrapper;rw[aE cj9];exact⟨ii,ii⟩)
  (λb started H a _=>lifted b started H a)
theorem proved:Rows.WholeQuietSaid:=aV5
#print axioms proved