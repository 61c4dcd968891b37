import Derived.Test.YtadifmnmfnihdaaGreatA05
import Derived.Test.YtadifmnmfnihdaaGreatA06
set_option linter.all false
set_option maxRecDepth 100000
set_option maxHeartbeats 40000000
namespace Go.Proofs.YtadifmnmfnihdaaGreat
open Go.RowKit Mach Go.Proofs.Tryz
variable{v u f w':World}{D Q:Mem}{t S':Wd}{b z:Nat}{Y:Int}{h:ce}{Z:Bool}{e:bI}{J:bi}{T:fE}{us:dl}
section
variable{af:Nat}{F:Fx}{w:World}{m:Mem}{L:List (Nat×Obj)}
theorem Ka:kJ Y=true↔ -1000000000<=Y/\Y<=1000000000:=by simp[kJ]
theorem lM(h:¬kJ Y=false): -1000000000<=Y/\Y<=1000000000:=Ka.1 ck0
theorem Il(A:At af F D u m w t)(l who:Int):gt 169 #[F.dY,l,who] w (eL (.bool (ax8 t.aq l who).2) λw'=>At af F D u m w' {t with aq:=(ax8 t.aq l who).1}):=
 (EY A.bj l who).mono λe w' ⟨a,b⟩=>⟨a,A.cont b⟩
theorem VS{who:Int}(a:(ax8 h Y who).2=false):(ax8 h Y who).1=h:=by
 unfold ax8 at a ⊢;grind
section
variable(R:bz af F w m t)(g:Nat)(p:Int)(x:bI)(hx:t.gs[g]?=x)(k:Nat)(hk:x.k=k)(l:Int)(hl:x.aq[k]?=l)(VT:eX l)
include R g p x hx k hk l hl VT
theorem E6(c:(ax8 t.aq (l-1) g).2=false):gt 112 #[bR F,I g,p] w (ee λw'=>At af F m w m w' t):=by
 obtain⟨b,o,j,z⟩:=R.CU hx hl;have A:=bM1;have B:k<x.aq.length:=um hl;have c3:=R.eu;have C:=R.pC;obtain⟨E,G⟩:=bM2;have d:=R.g hx 21 _ ii;obtain⟨f,q⟩:=bQ3;obtain⟨H,J,K,M⟩:=R.pB;rw[j]at d;rw[hk]at f;have r:=bM3;have s:=ag c;have v:=ag (VS c);clear R hx hl o j hk c;unfold bR;go_enter func112,ntmps112;go_wp2_with fail
 refine WP 16 kX kX ?_;change wpStill _ _ w.drew (λa=>wpList _ _ _ _ a w.drew) _ _;simp only[sS,aW1,sU,rC];repeat still_step
 refine aj0 ?_;go_wp2_with (go_at_call 169;refine(Il r.out.aI (l-1) g).mono ?_;rintro e N ⟨n,i⟩;rw[s.out]at n;subst n;rw[v.out]at i;have y:=ag i;clear i);refine UV (ad8 ii _ _ _) ii ?_;exact⟨ii,y⟩
theorem CV(s:(ax8 t.aq (l-1) g).2)(jA:(k:Int)<=1000000000)(y:ce)(z:y=(ax8 t.aq (l-1) g).1):gt 112 #[bR F,I g,p] w (ee λw'=>At af F m w m w' (({t with aq:=y}:Wd).ay g (if(k:Int)+1=x.aq then{x with k:=0,ae:=p}else{x with k:=k+1}))):=by
 obtain⟨b,H,r,hc⟩:=R.CU hx hl;have eM:=bM1;have J:k<x.aq.length:=um hl;have c3:=R.eu;have c7:=R.pC;obtain⟨g2,xV⟩:=bM2;have f:=R.g hx 21 _ ii;obtain⟨A,X⟩:=bQ3;obtain⟨aU,Gu,aY,aZ⟩:=R.pB;rw[r]at f;rw[hk]at A;have K:=bM3;have M:=ag s;have N:=ag z;have HX:Hid (({t with aq:=y}:Wd).gs[g]?=x):=hx;have O:=ag r;have T:=ag hk;by_cases c:(k:Int)+1=x.aq.length
 .rw[aF c];obtain⟨n,i⟩:=dC (x.aq.length);have B:=ag i;rw[<-i]at f c J;have Y:((k:Int)+1==(n:Int))=true:=by simpa using c
  clear R hx hl H r hk s z c i;unfold bR;go_enter func112,ntmps112;go_wp2_with fail
  refine WP 16 kX kX ?_;change wpStill _ _ w.drew (λa=>wpList _ _ _ _ a w.drew) _ _;simp only[sS,aW1,sU,rC];repeat still_step
  refine aj0 ?_;go_wp2_with (go_at_call 169;refine(Il K.out.aI (l-1) g).mono ?_;rintro e Z ⟨c,d⟩;rw[M.out]at c;subst c;rw[<-N.out]at d;have RN:=d.bj;have p2:=bR7;have wW:=bR8;have j:=RN.g HX 21 _ ii;have C:=RN.g HX 24 _ ii;have AL:=bR9;have o:x.k=k:=T.out;rw[o]at C;rw[O.out,<-B.out]at j;have E:=ag d;clear d RN o);go_quiet (fail);go_wp2;go_end0;have G:=E.out.g HX {x with k:=k+1} (q:=24) (v:=I (k+1));have U:=G.g (az HX) {x with k:=0} (q:=24) (v:=I 0);rw[aA]at U;have W:=U.g (az HX) {x with k:=0,ae:=p} (q:=2) (v:=I p);rw[aA]at W;exact⟨ii,W.aI⟩
 rw[aE c];obtain⟨n,i⟩:=dC (x.aq.length);have B:=ag i;rw[<-i]at f c J;have Y:((k:Int)+1==(n:Int))=false:=by simpa using c
 clear R hx hl H r hk s z c i;unfold bR;go_enter func112,ntmps112;go_wp2_with fail
 refine WP 16 kX kX ?_;change wpStill _ _ w.drew (λa=>wpList _ _ _ _ a w.drew) _ _;simp only[sS,aW1,sU,rC];repeat still_step
 refine aj0 ?_;go_wp2_with (go_at_call 169;refine(Il K.out.aI (l-1) g).mono ?_;rintro e Z ⟨c,d⟩;rw[M.out]at c;subst c;rw[<-N.out]at d;have RN:=d.bj;have p2:=bR7;have wW:=bR8;have j:=RN.g HX 21 _ ii;have C:=RN.g HX 24 _ ii;have AL:=bR9;have o:x.k=k:=T.out;rw[o]at C;rw[O.out,<-B.out]at j;have E:=ag d;clear d RN o);go_quiet (fail);go_wp2;go_end0;have G:=E.out.g HX {x with k:=k+1} (q:=24) (v:=I (k+1));exact⟨ii,G.aI⟩
end
theorem sm{S':Wd}(a:Ys t b=(S',Z)):∃(x:bI) (j:Nat) (l:Int),t.gs[b]?=x/\x.k=j+1/\(j:Int)<=1000000000/\x.aq[j]?=l/\ -1000000000<=l/\l<=1000000000/\S'=(free t (l-1) b).ay b {x with k:=j}/\Z=decide (j=0):=by
 unfold Ys at a;simp only[bW,cI]at a;obtain⟨x,g,a⟩:=a;by_cases c:kJ x.k=false
 .grind
 rw[aE c]at a;simp only[cI]at a;obtain⟨l,e,a⟩:=a;by_cases d:kJ l=false
 .grind
 rw[aE d]at a
 cases a;have c:=lM c;have d:=lM d;obtain⟨j,h,i,f⟩:=mO e;grind
theorem xD(R:bz af F w m t)(g:Nat)(S':Wd)(d:Bool)(y:Ys t g=(S',d)):gt 121 #[bR F,I g] w (eL (.bool d) λw'=>At af F m w m w' S'):=by
 obtain⟨x,j,l,hx,z,E,o,T,U,rfl,rfl⟩:=sm y;have W:=um hx;have c3:=R.eu;obtain⟨f,p⟩:=bQ3;obtain⟨X,Y,Z,aZ⟩:=R.pB;rw[z]at f;have A1:=(At.refl R).g hx {x with k:=j} (q:=24) (v:=I j);have G:=bO7;have n:Hid ((t.ay g {x with k:=j}).gs[g]?=some {x with k:=j}):=az hx;have H:=ag o;have vy:j<x.aq.length:=um o;have hs:IntKind.i64.wrap ((j:Int)+1-1)=(j:Int):=cx7
 clear R hx y A1 z o;unfold bR;go_enter func121,ntmps121;go_wp2_with fail
 obtain⟨i,A,A1⟩:∃i,i=_/\At af F m w m i _:=⟨_,ii,G⟩;rw[<-A];have c:=bR3;obtain⟨b,J,B,hc⟩:=c.CU n H;have d3:=c.eu;have d7:=c.pC;have r:=c.g n 21 _ ii;have K:=c.g n 24 _ ii;have M:=c.frozen c.aB.gs (g*25+24);rw[show(t.ay g {x with k:=(j:Int)}).gs.length=t.gs.length by simp[Wd.ay]]at d3;rw[B]at r;have N:=bO7;clear A1 A c J B c3 f p;refine WP 16 kX kX ?_;change wpStill _ _ i.drew (λa=>wpList _ _ _ _ a i.drew) _ _;simp only[sS,aW1,sU,rC];repeat still_step
 refine aj0 ?_;go_wp2_with (go_at_call 156;refine(C9 (S:=t.ay g {x with k:=(j:Int)}) N.out.aI (l-1) g).mono ?_;rintro e wN ⟨⟨bb,rfl⟩,s⟩;have C:=s.bj;have AJ:=C.g (S:=free (t.ay g {x with k:=(j:Int)}) (l-1) g) n 24 _ ii;have O:=ag s;clear s C);go_ret;refine⟨?_,O⟩;simp
end
structure Reads(w:World)(v:Value)(xs:ce):Prop where
 shape:∃a c,v=.slice a xs c
 cell:∀(j:Nat) x,xs[j]?=some x->∃b c:Nat,v=(b,xs.length,c)/\w.cell? (b,j)=I x
theorem IN(s:Int)(w:World):gt 178 #[s] w (eL (.bool (s != -1)) λa=>w=a):=by
 go_enter func178,ntmps178;exact bZ9
section
variable(a:am)(c n:Nat)(xs:ce)(hn:n=xs)(RH:n<=1000000)(w:World)(hr:Reads w (a,n,c) xs)
include a c n xs hn RH w hr
theorem IP:gt 73 #[(a,n,c),.func (.func 178) #[] #[]] w λe o=>(∃r:Int,e=r/\(0<=r↔xs.any (λs=>s != -1)))/\w=o:=by
 have p:=ag hr;have HN:=ag hn;have f:=ag (λs w=>IN s w);clear hr hn;go_enter func73,ntmps73;go_wp2;go_loopw [4,5,8] (λr v i wr=>∃k:Nat,i=.int .i64 k/\k<=n/\Hid (∀j,j<k->xs[j]?=some (-1))/\wr=w) (λr v i _=>n-(intOf i).toNat)
 case atStart=>exact⟨0,ii,oX,λj q=>oX,ii⟩
 obtain⟨k,rfl,z,A,rfl⟩:=hrel;by_cases dD:k<n
 .obtain⟨x,hx⟩:∃x,xs[k]?=some x:=⟨_,fv cn4⟩;obtain⟨b,B,g,t⟩:=p.out.cell k x hx;simp only[as9]at g;obtain⟨rfl,u,rfl⟩:=g;clear u;have l:=bL7;by_cases h1:x= -1
  .have d:(x != -1)=false:=by simp[h1]
   rw[h1]at t l;clear hx h1 d;go_wp2_with (go_at_call 178;refine(f _ _).mono ?_;rintro e y ⟨rfl,rfl⟩);go_roundw
   case rel=>
    refine⟨k+1,sX,oX,λj q=>?_,trivial⟩;grind [Hid.out]
   simp[intOf];omega
  have d:(x != -1)=true:=cm9
  have m:=ag d;clear hx h1 d;go_wp2_with (go_at_call 178;refine(f _ _).mono ?_;rintro e y ⟨rfl,rfl⟩;rw[m.out]);go_ret;refine⟨⟨k,ii,?_⟩,ii⟩;constructor
  .intro _;rw[List.any_eq_true];exact⟨x,lf l,m⟩
  intro _;omega
 obtain rfl:k=n:=oX
 go_wp2;go_ret;refine⟨⟨-1,ii,?_⟩,ii⟩;grind [List.getElem?_of_mem,Hid.out]
theorem tr:gt 40 #[(a,n,c),.func (.func 178) #[] #[]] w λe g=>e=Value.bool (xs.any (λs=>s != -1))/\w=g:=by
 have b:=ag (IP a c n xs hn RH w hr);obtain⟨r,d⟩:=dC (xs.any (λs=>s != -1));rw[<-d]at b ⊢;clear hr hn d;go_enter func40,ntmps40;go_wp2_with (go_at_call 73;refine b.out.mono ?_;rintro e j ⟨⟨q,rfl,f⟩,rfl⟩;have i:=ag f;clear f);go_ret;refine⟨?_,ii⟩;have h:=i.out
 cases r with
 |true=>simp at h;simp[h]
 |false=>simp at h;simp;omega
end
section
variable{af:Nat}{F:Fx}{w w0:World}{m m0:Mem}{S:Wd}{L:List (Nat×Obj)}
theorem bz.FP(R:bz af F w m S)(hx:S.gs[b]?=e):Reads w (m.cU (.bA b) e.bA) e.bA:=by
 refine⟨R.shape cq1,λj v a=>?_⟩;grind [ti]
section
variable(A:At af F m0 w0 m w S)
include A
theorem jb{S':Wd}(a:Ys S b=(S',Z)):gt 121 #[bR F,I b] w (eL (.bool Z) λw'=>At af F m0 w0 m w' S'):=
 (xD A.bj b S' Z a).mono λe w' ⟨c,d⟩=>⟨c,A.cont d⟩
theorem xe(c:S.gs[b]?=e)(p:Int):gt 175 #[bR F,I b,p] w (ee λw'=>At af F m0 w0 m w' (S.ay b (eZ e p))):=
 (tj A.bj b e c p).mono λa w' ⟨d,f⟩=>⟨d,A.cont f⟩
theorem Dz(c:S.gs[b]?=e):gt 179 #[F.aQ,I b] w λa w'=>a=(aP8 e)/\w=w':=LG A.bj b e c
end
theorem zf(R:bz af F w m S)(g:Nat)(S1:Wd)(a:Ys S g=(S1,false)):gt 118 #[bR F,I g] w (ee λw'=>At af F m w m w' S1):=by
 have b:=bM3;have c:=ag a;clear R a;unfold bR;go_enter func118,ntmps118;go_wp2_with (go_at_call 121;refine(jb b.out c).mono ?_;rintro e f ⟨rfl,A1⟩;have d:=bO7;clear A1);refine UV (ad8 ii _ _ _) ii ?_;exact⟨ii,d⟩
section
variable(R:bz af F w m S)(g:Nat)(S1:Wd)(hm:Ys S g=(S1,true))(x:bI)(hx:S1.gs[g]?=x)
include R g S1 hm x hx
theorem zg(a:x.res.aJ=0):gt 118 #[bR F,I g] w (ee λw'=>At af F m w m w' (S1.ay g {x with ae:=13})):=by
 have b:=bM3;have c:=ag hm;have HX:=bL7;have d:=ag a;have j:g<S1.gs.length:=um hx;clear R hm hx a;unfold bR;go_enter func118,ntmps118;go_wp2_with (go_at_call 121;refine(jb b.out c).mono ?_;rintro e k ⟨rfl,A1⟩;have R1:=bR3;have c3:=R1.eu;have l:=bR4;have n:=bR5;have f:=R1.g HX 15 _ ii;rw[d.out]at f;have i:=bO7;clear A1 R1);go_end0;exact⟨ii,i.out.g HX {x with ae:=13} (q:=2) (v:=I 13)⟩
theorem xE(h0:x.res.aJ≠0)(b:x.bA.length<=1000000)(f:x.bA.any (λs=>s != -1)):gt 118 #[bR F,I g] w (ee λw'=>At af F m w m w' (S1.ay g {x with ae:=34})):=by
 have k:=bM3;have l:=ag hm;have HX:=bL7;have z:(x.res.aJ==0)=false:=cq3
 have o:=ag f;have A:g<S1.gs.length:=um hx;obtain⟨n,c⟩:=dC (x.bA.length);have i:=ag c;rw[<-c]at b;have p:=ag b;clear R hm hx h0 f c b;unfold bR;go_enter func118,ntmps118;go_wp2_with (first|(go_at_call 121;refine(jb k.out l).mono ?_;rintro e B ⟨rfl,A1⟩;have R1:=bR3;have c3:=R1.eu;have C:=bR4;have E:=bR5;have G:=R1.g HX 15 _ ii;have j:=R1.g HX 22 _ ii;have a:=R1.FP HX;obtain⟨r,t,d⟩:=a.shape;rw[<-i.out]at j d a;rw[d]at j a;obtain⟨u,y⟩:=dA a A1;clear A1 R1 a d)|(go_at_call 40;refine(tr r t n x.bA i p _ u).mono ?_;rintro e H ⟨rfl,rfl⟩;rw[o.out]));go_end0;exact⟨ii,y.out.g HX {x with ae:=34} (q:=2) (v:=I 34)⟩
theorem zh(h0:x.res.aJ≠0)(b:x.bA.length<=1000000)(f:x.bA.any (λs=>s != -1)=false):gt 118 #[bR F,I g] w (ee λw'=>At af F m w m w' (S1.ay g {x with ae:=aP8 x})):=by
 have l:=bM3;have o:=ag hm;have HX:=bL7;have A:(x.res.aJ==0)=false:=cq3
 have p:=ag f;have B:g<S1.gs.length:=um hx;obtain⟨n,c⟩:=dC (x.bA.length);have i:=ag c;rw[<-c]at b;have r:=ag b;clear R hm hx h0 f c b;unfold bR;go_enter func118,ntmps118;go_wp2_with (first|(go_at_call 121;refine(jb l.out o).mono ?_;rintro e C ⟨rfl,A1⟩;have R1:=bR3;have c3:=R1.eu;have E:=bR4;have G:=bR5;have H:=R1.g HX 15 _ ii;have j:=R1.g HX 22 _ ii;have a:=R1.FP HX;obtain⟨t,u,d⟩:=a.shape;rw[<-i.out]at j d a;rw[d]at j a;obtain⟨y,k⟩:=dA a A1;clear A1 R1 a d)|(go_at_call 40;refine(tr t u n x.bA i r _ y).mono ?_;rintro e z ⟨rfl,rfl⟩;rw[p.out])|(go_at_call 179;refine(Dz k.out HX).mono ?_;rintro e z ⟨rfl,rfl⟩));go_end0;exact⟨ii,k.out.g HX {x with ae:=aP8 x} (q:=2) (v:=I (aP8 x))⟩
end
theorem zi(R:bz af F w m S)(g:Nat)(h:∀x,S.gs[g]?=some x->x.bA.length<=1000000)(S':Wd)(a:iH S g=S'):gt 118 #[F.aQ,I g] w (ee λw'=>At af F m w m w' S'):=by
 unfold iH at a;simp only[bW,cI]at a;obtain⟨⟨S1,b⟩,i,a⟩:=a
 cases b with
 |false=>
  simp only[dt,oZ]at a;grind [zf]
 |true=>
  simp only[aH6,dF]at a;unfold fL at a
  cases d:S1.gs[g]? with
  |none=>rw[d]at a;cases a
  |some x=>
   rw[d]at a
   cases a;show gt 118 #[F.aQ,I g] w λe w'=>e=Value.tuple #[]/\At af F m w m w' (S1.ay g {x with ae:=fG x})
   have j:x.bA.length<=1000000:=(by grind [sm,free,az]);by_cases c:x.res.aJ=0
   .rw[show fG x=13 by unfold fG;rw[aF c]];grind [zg]
   cases f:x.bA.any (λs=>s != -1) with
   |true=>
    rw[show fG x=34 by unfold fG;rw[aE c,aF f]];grind [xE]
   |false=>
    rw[show fG x=aP8 x by unfold fG;rw[aE c,aE (by simp[f])]];grind [zh]
theorem bb8(A:At af F m0 w0 m w S)(c:S.gs[b]?=e)(d:dU e=Y):gt 170 #[F.aQ,I b] w λa w'=>a=Y/\∃n,w'=w.drewN n:=vX A.bj b e c Y d
theorem rm(R:bz af F w m S)(g:Nat)(S':Wd)(a:eH S g=S'):gt 114 #[bR F,I g] w (ee λw'=>At af F m w m w' S'):=by
 unfold eH at a;simp only[bW,cI]at a;obtain⟨x,hx,a⟩:=a;obtain⟨p,c3,c⟩:=bK6;have f:=bM6;obtain⟨i,j⟩:=R.ps hx 14 rfl;obtain⟨r,s,t,u⟩:=R.pB;by_cases b:x.ae=27
 .rw[aF b]at a;simp only[cI]at a;obtain⟨h,d,a⟩:=a
  cases a;rw[b]at f;have A1:=(At.refl R).g hx {x with fire:=h} (q:=14) (v:=I h)
  have k:=bO7;have l:=bL7;have o:=ag d;clear R hx d A1 b;unfold bR;go_enter func114,ntmps114;go_wp2_with fail
  go_region_with (go_at_call 170;refine(bb8 c.out.aI l o).mono ?_;rintro e y ⟨rfl,n,rfl⟩)
  all_goals
   go_wp2;go_end0;exact⟨ii,k.out.aI⟩
 rw[aE b]at a
 cases a;have d:(x.ae==27)=false:=by simpa using b
 clear R hx b;unfold bR;go_enter func114,ntmps114;go_wp2;go_end0;exact⟨ii,c⟩
theorem Ce(R:bz af F w m S)(g:Nat)(x:bI)(hx:S.gs[g]?=x)(r:nP):gt 173 #[bR F,I g,.agg #[r.aJ,r.case,r.v,r.ok,r.n]] w (ee λw'=>At af F m w m w' (S.ay g (eZ {x with res:=r,lQ:=S.av,fire:=r.case} 30))):=by
 have y:=um hx;have c3:=R.eu;have c2:=R.dM;obtain⟨d,z⟩:=bQ4;obtain⟨f,i⟩:=R.ps hx 14 rfl;obtain⟨j,A⟩:=bQ5;obtain⟨k,C⟩:=bQ6;obtain⟨l,E⟩:=bQ7;obtain⟨o,G⟩:=bQ8;obtain⟨p,H⟩:=bQ9;obtain⟨J,K,M,N⟩:=R.pB;have A1:=(At.refl R).res hx r;have a:=A1.g (az hx) {x with res:=r,lQ:=S.av} (q:=12) (v:=I S.av);rw[aA]at a;have b:=a.g (az hx) {x with res:=r,lQ:=S.av,fire:=r.case} (q:=14) (v:=I r.case);rw[aA]at b;have c:=b.alloc (.cells #[I r.aJ,I r.case,I r.v,B r.ok,I r.n] 44);have s:=ag c;have t:Hid ((S.ay g {x with res:=r,lQ:=S.av,fire:=r.case}).gs[g]?=some {x with res:=r,lQ:=S.av,fire:=r.case}):=az hx;clear R hx A1 a b c;unfold bR;go_enter func173,ntmps173;go_wp2_with (go_at_call 175;refine(xe (S:=S.ay g {x with res:=r,lQ:=S.av,fire:=r.case}) s.out.aI t 30).mono ?_;rintro e O ⟨rfl,A1⟩;have u:=bO7;clear A1);go_end0;exact⟨ii,u.out.eq aA⟩
theorem bw2(A:At af F m0 w0 m w S)(c:S.gs[b]?=e)(r:nP):gt 173 #[bR F,I b,.agg #[r.aJ,r.case,r.v,r.ok,r.n]] w (ee λw'=>At af F m0 w0 m w' (S.ay b (eZ {e with res:=r,lQ:=S.av,fire:=r.case} 30))):=
 (Ce A.bj b e c r).mono λa w' ⟨d,f⟩=>⟨d,A.cont f⟩
theorem zj{w w':World}(h:Below w w w')(r:Option Nat):w.grownBy w' r:=⟨h.os,h.tape,h.output,h.size,λb a _=>h.block b a⟩
theorem DA{w:World}(a:J=z)(d:z<=1000000){af:Nat}(c:af<=b)(h:w.heap[b]?=some (.cells J.toArray 3 (0,0))):w.ownsRow af 3 1 (b,z,z) z J:=by
 refine⟨oX,.inr ⟨b,z,J.toArray,ii,c,h,rx _,cj7,by simp[a],?_⟩⟩;grind
theorem Md(a:u=b)(v:Value)(t:TypeId):(u.alloc (#[v],t)).cell? b=v:=by
 subst a;simp_all
theorem At.IQ(a:Below v v f)(A:At af F m0 w0 m u S)(b:v.heap=u.heap)(c:v.os=u.os)(d:v.tape=u.tape)(e:v.output=u.output):At af F m0 w0 m f S:=(A.aI b c d e).heap a
theorem At.Wy(d:Below v v f)(A:At af F m0 w0 m u S)(g:v.heap=u.heap)(i:v.os=u.os)(j:v.tape=u.tape)(k:v.output=u.output)(a:v<=b)(n:S.gs[z]?=e){l:ce}(o:l.length<=1000000)(p:f.heap[b]?=some (.cells (l.map I).toArray 3 (0,0))):At af F m0 w0 (m.eG (.bA z) b l) (f.setCell (F.gs,z*25+22) (b,l.length,l.length)) (S.ay z {e with bA:=l}):=by
 have c:=A.aI g i j k;exact c.Vp n (zj d _) (DA sX o (jm c.bj.eS a) p) (.inr a)
section
variable(R:bz af F w m S)(g:Nat)(x:bI)(hx:S.gs[g]?=x)(k:Int)(hk:x.k=k)(oz:eX k)(o:cu)(ca:am)(cn cc:Nat)
include R g x hx k hk oz o ca cn cc
theorem AX(dD:k+1<x.aH):gt 174 #[bR F,I g,.agg #[o.ai,o.ch,o.n,o.v,(ca,cn,cc),o.dG]] w (ee λw'=>At af F m w m w' (S.ay g {x with k:=k+1})):=by
 have l:=um hx;have c3:=R.eu;have b:=R.g hx 20 _ ii;obtain⟨d,j⟩:=bQ3;obtain⟨p,s,t,u⟩:=R.pB;obtain⟨a,c,e⟩:=bS0;rw[e]at b;rw[hk]at d;obtain⟨n,f⟩:=bS1;rw[<-f]at b dD;have y:decide (k+1<(n:Int))=true:=cw1
 have i:=bS2;have HA:=ag (i.alloc (.cells #[I o.ai,I o.ch,I o.n,I o.v,(ca,cn,cc),B o.dG] 49));clear R hx hk e f dD i;unfold bR;go_enter func174,ntmps174;go_wp2_with fail
 go_quiet (fail);exact ce8
theorem AY(dD:¬k+1<x.aH)(f:o.dG):gt 174 #[bR F,I g,.agg #[o.ai,o.ch,o.n,o.v,(ca,cn,cc),o.dG]] w (ee λw'=>At af F m w m w' ((S.ay g {x with k:=k+1}).ay g (eZ {x with k:=k+1,res:={aJ:=2,case:= -1},lQ:=S.av,fire:= -1} 30))):=by
 have u:=um hx;have c3:=R.eu;have b:=R.g hx 20 _ ii;obtain⟨d,l⟩:=bQ3;obtain⟨y,z,A,C⟩:=R.pB;obtain⟨a,c,i⟩:=bS0;rw[i]at b;rw[hk]at d;obtain⟨n,j⟩:=bS1;rw[<-j]at b dD;have E:decide (k+1<(n:Int))=false:=cw1
 have A1:=bS2;rw[f];have p:=ag (A1.alloc (.cells #[I o.ai,I o.ch,I o.n,I o.v,(ca,cn,cc),B true] 49));have s:Hid ((S.ay g {x with k:=k+1}).gs[g]?=some {x with k:=k+1}):=az hx;clear R hx hk i j dD A1 f;unfold bR;go_enter func174,ntmps174;go_wp2_with fail
 go_quiet (fail);go_wp2_with (go_at_call 173;refine(bw2 (S:=S.ay g {x with k:=k+1}) p.out.aI s {aJ:=2,case:= -1}).mono ?_;rintro e G ⟨rfl,A1⟩;have t:=bO7;clear A1);refine UV (ad8 ii _ _ _) ii ?_;exact⟨ii,t⟩
theorem AZ(dD:¬k+1<x.aH)(A:o.dG=false)(j:1<=cn)(Q:cn<=1000):gt 174 #[bR F,I g,.agg #[o.ai,o.ch,o.n,o.v,(ca,cn,cc),o.dG]] w (ee λw'=>To af F m w (S.ay g {x with bA:=List.replicate cn (-1),k:=0,ae:=28}) w'):=by
 have W:=um hx;have c3:=R.eu;have d:=R.g hx 20 _ ii;obtain⟨p,T⟩:=bQ3;obtain⟨X,Y,Z,aZ⟩:=R.pB;obtain⟨a,c,C⟩:=bS0;rw[C]at d;rw[hk]at p;obtain⟨n,E⟩:=bS1;rw[<-E]at d dD;have hb:decide (k+1<(n:Int))=false:=cw1
 have G:=bS2;rw[A];have H:=ag ((G.alloc (.cells #[I o.ai,I o.ch,I o.n,I o.v,(ca,cn,cc),B false] 49)).alloc (.cells #[I (-1)] 3));have f:Hid ((S.ay g {x with k:=k+1}).gs[g]?=some {x with k:=k+1}):=az hx;have J:=bL7;have s:=ag (λb w h=>(bk0 b cn j Q w h).mono (λe w' h=>(⟨w.heap.size,rx _,h⟩:∃i,w.heap.size<=i/\e=Value.slice (some ⟨i,0,none⟩) cn cn/\w'.heap[i]?=some (.cells (List.replicate cn (I (-1))).toArray 3 (0,0))/\Below w w w')));clear R hx hk C E dD G A;unfold bR;go_enter func174,ntmps174;go_wp2_with fail
 go_quiet (fail);go_wp2_with fail
 refine(s _ _ (Md sX _ _)).mono ?_;rintro e w2 ⟨i,K,rfl,M,t⟩;have N:=At.IQ t H ii ii ii ii;have R2:=N.bj;have p2:=R2.g f 2 _ ii;have wW:=bP0;have Es:=R2.g f 22 _ ii;have Z4:=R2.frozen R2.aB.gs (g*25+22);have AJ:=R2.g f 24 _ ii;have AL:=R2.frozen R2.aB.gs (g*25+24);have O:(List.replicate cn (-1:Int)).length=cn:=sX
 have u:=At.Wy (l:=List.replicate cn (-1)) t H ii ii ii ii K f ci8 (by rw[List.map_replicate];exact M);rw[O,aA]at u;have y:=u.g (az (x:=x) J) {x with bA:=List.replicate cn (-1),k:=0} (q:=24) (v:=I 0);rw[aA]at y;have z:=y.g (az (x:=x) J) {x with bA:=List.replicate cn (-1),k:=0,ae:=28} (q:=2) (v:=I 28);rw[aA]at z;have U:=ag z;clear u y z N R2 O M t K;go_wp2;go_end0;exact⟨ii,_,U⟩
end
section
variable(X:AB af F m0 w0 m w S L)(g:Nat)(o:cu)
include X g o
theorem PN(d:eX o.ch)(a:am)(b c:Nat){S':Wd}(f:aW7 S g o.ch=S'):gt 93 #[.agg #[F.aQ,I g,o.ai,o.ch,o.n,o.v,(a,b,c),o.dG]] w (ee λw'=>AB af F m0 w0 m w' S' L):=
 (Ja X.bj g o d a b c S' f).mono λe w' ⟨h,i⟩=>⟨h,X.av i⟩
theorem Mr(d:Good S)(f:eX o.ch)(a:am)(b c:Nat){S':Wd}(h:jG S g o.ch=S'):gt 94 #[.agg #[F.aQ,I g,o.ai,o.ch,o.n,o.v,(a,b,c),o.dG]] w (ee λw'=>AB af F m0 w0 m w' S' L):=
 (bj7 X.bj d g o f a b c S' h).mono λe w' ⟨i,j⟩=>⟨i,X.av j⟩
theorem Ms(d:Good S)(f:eX o.ch)(a:am)(b c:Nat){S':Wd}(h:jH S g o.ch=S'):gt 95 #[.agg #[F.aQ,I g,o.ai,o.ch,o.n,o.v,(a,b,c),o.dG]] w (ee λw'=>AB af F m0 w0 m w' S' L):=
 (bj8 X.bj d g o f a b c S' h).mono λe w' ⟨i,j⟩=>⟨i,X.av j⟩
theorem PO(a:am)(b c:Nat){S':Wd}(d:aW8 S g o.v=S'):gt 100 #[.agg #[F.aQ,I g,o.ai,o.ch,o.n,o.v,(a,b,c),o.dG]] w (ee λw'=>∃D,AB af F m0 w0 D w' S' L):=
 (Jd X.bj g o a b c S' d).mono λe w' ⟨f,D,h⟩=>⟨f,D,X.av h⟩
theorem PQ(d:Good S)(f:eX o.ch)(a:am)(b c:Nat){S':Wd}(h:jY S g o=S'):gt 101 #[.agg #[F.aQ,I g,o.ai,o.ch,o.n,o.v,(a,b,c),o.dG]] w (ee λw'=>AB af F m0 w0 m w' S' L):=
 (Je X.bj d g o f a b c S' h).mono λe w' ⟨i,j⟩=>⟨i,X.av j⟩
theorem PR(a:am)(b c:Nat){S':Wd}(d:lu S g=S'):gt 104 #[.agg #[F.aQ,I g,o.ai,o.ch,o.n,o.v,(a,b,c),o.dG]] w (ee λw'=>AB af F m0 w0 m w' S' L):=
 (Jb X.bj g o a b c S' d).mono λe w' ⟨f,h⟩=>⟨f,X.av h⟩
end
section
variable(X:AB af F m0 w0 m w S L)
include X
theorem aY3{a hand:Int}{S':Wd}(c:Mach.take S b Y a hand=(S',Z)):gt 96 #[bR F,I b,Y,a,hand] w (eL (.bool Z) λw'=>AB af F m0 w0 m w' S' L):=
 (LP X.bj b Y a hand S' Z c).mono λe w' ⟨d,f⟩=>⟨d,X.av f⟩
theorem PS{lost:Int}{S':Wd}(a:rD S b lost Y=S'):gt 99 #[bR F,I b,lost,Y] w (ee λw'=>AB af F m0 w0 m w' S' L):=
 (Ff X.bj b lost Y S' a).mono λe w' ⟨c,d⟩=>⟨c,X.av d⟩
theorem Ti(a:Good S){S':Wd}(c:rE S b T=S'):gt 102 #[bR F,I b,.agg #[T.cK,T.g,T.ch,T.case,T.cF,T.v,T.done]] w (ee λw'=>∃D,AB af F m0 w0 D w' S' L):=
 (BY X.bj a b T S' c).mono λe w' ⟨d,D,f⟩=>⟨d,D,X.av f⟩
theorem jP(a:Good S){S':Wd}(c:gH S b=(S',Z)):gt 105 #[bR F,I b] w (eL (.bool Z) λw'=>∃D,AB af F m0 w0 D w' S' L):=
 (xd X.bj a b S' Z c).mono λe w' ⟨d,D,f⟩=>⟨d,D,X.av f⟩
end
theorem AB.oP(X:AB af F m0 w0 m w S [])(a b:Obj):AB af F m0 w0 m ((w.alloc a).alloc b) S [(w+1,b),(w,a)]:=by
 have h:=(X.alloc a).alloc b;simp_all
theorem AB.qn(A:At af F m0 w0 m w S):AB af F m0 w0 m w S []:=⟨A,λp a=>by cases a⟩
theorem ss(X:AB af F m0 w0 m w S L):To af F m0 w0 S w:=⟨m,X.at_⟩
theorem Bd{a c d:Value}{t:TypeId}{e:Nat×Nat}(h:w.heap[b]?=some (.cells #[a,c,d] t e)):w.cell? b=a/\w.cell? (b,1)=c/\w.cell? (b,2)=d:=by
 refine⟨?_,?_,?_⟩<;>(rw[al7 w b _ _ _ _ h];rfl)
theorem qT{a c d e f:Value}{t:TypeId}{g:Nat×Nat}(h:w.heap[b]?=some (.cells #[a,c,d,e,f] t g)):w.cell? b=a/\w.cell? (b,1)=c/\w.cell? (b,2)=d/\w.cell? (b,3)=e/\w.cell? (b,4)=f:=by
 refine⟨?_,?_,?_,?_,?_⟩<;>(rw[al7 w b _ _ _ _ h];rfl)
theorem AB.snd{o a:Obj}(X:AB af F m0 w0 m w S ((z,a)::(b,o)::L)):w.heap[b]?=o:=(X.loc _ (nO _ (rn ..))).1
theorem aM{t:TypeId}(h:w.heap[b]?=some (.cells us t (0,0)))(j:Nat):w.frozen? (b,j)=false:=iM w b j h
theorem aV1{g i j k l:Value}(h:v.heap[b]?=some (.cells #[g,i,j,k,l] 44 (0,0))){a c d e f:Value}:(((((v.setCell b a).setCell (b,1) c).setCell (b,2) d).setCell (b,3) e).setCell (b,4) f).heap[b]?=some (.cells #[a,c,d,e,f] 44 (0,0)):=by
 have n:=ms v b 0 _ _ a h;have o:=ms _ b 1 _ _ c n;have p:=ms _ b 2 _ _ d o;have q:=ms _ b 3 _ _ e p;exact ms _ b 4 _ _ f q
theorem At.xF(A:At af F m0 w0 m v S)(a:∀r,m.aV r≠b)(c:w0<=b)(d e f g h:Value):At af F m0 w0 m (((((v.setCell b d).setCell (b,1) e).setCell (b,2) f).setCell (b,3) g).setCell (b,4) h) S:=
 ((((A.other a c d).other a c e).other a c f).other a c g).other a c h
theorem xG(R:bz af F w m S)(g:Nat)(c:Case)(j:Nat)(a:c.ch=j+1)(e:(j:Int)<=1000000000)(h:S.aO[j]?=true):gt 171 #[bR F,I g,.agg #[c.cF,c.ch,c.v]] w (eL (.tuple #[.agg #[I 3,I 0,I 0,B false,I 0],.bool true,.bool false]) λw'=>At af F m w m w' S):=by
 obtain⟨f,b,i,k⟩:=R.ka h;have l:j<S.aO.length:=um h;have n:=bO9;have o:=R.lt b;have d:=ag (AB.oP (AB.iU R) (.cells #[B c.cF,I (j+1),I c.v] 52) (.cells #[I 0,I 0,I 0,B false,I 0] 44));have p:IntKind.i64.wrap ((j:Int)+1-1)=(j:Int):=cx7
 rw[a];clear R h b a;unfold bR;go_enter func171,ntmps171;go_wp2_with fail
 go_quiet (fail);go_wp2;have X:=d.out;exact ca1
theorem KH{f hand:Int}{S1:Wd}(a:Mach.take S b Y f hand=(S1,false)):S1=S:=by
 unfold Mach.take at a;by_cases c:(S.ef.first Y).2=false
 .rw[aF c]at a;cases a;rfl
 rw[aE c]at a;simp only[bW,cI]at a;obtain⟨s,i,x,j,g,k,a⟩:=a;by_cases d:0<=g.case
 .rw[aF d]at a;cases a
 rw[aE d]at a;simp only[cI]at a;obtain⟨l,n,h,o,a⟩:=a
 cases e:Gt h b hand with
 |none=>rw[e]at a;cases a
 |some p=>rw[e]at a;cases a
section
variable(R:bz af F w m S)(aG:Good S)
include R aG
theorem zL(g:Nat)(c:Case)(d:eX c.ch)(j:Nat)(f:c.ch-1=j)(h:S.aO[j]?=false)(S':Wd)(a:Mach.take S g (2*c.ch-2) 26 27=(S',true)):gt 171 #[bR F,I g,.agg #[c.cF,c.ch,c.v]] w (eL (.tuple #[.agg #[I 0,I 0,I 0,B false,I 0],.bool false,.bool true]) λw'=>At af F m w m w' S'):=by
 obtain⟨n,i⟩:=bL3;have o:IntKind.i64.wrap (c.ch-1)=(j:Int):=cx7
 obtain⟨p,b,q,r⟩:=R.ka h;have s:j<S.aO.length:=um h;have t:=bO9;have u:=R.lt b;have k:=ag a;clear R h b f a aG;unfold bR;go_enter func171,ntmps171;go_wp2_with fail
 go_quiet (fail);go_wp2_with (first|(go_at_call 176;refine(kh c.ch d).mono ?_;rintro e x ⟨rfl,rfl⟩)|(go_at_call 96;refine(aY3 i.out.aI k).mono ?_;rintro e y ⟨rfl,X⟩;obtain⟨z,A,C,E,G⟩:=bS3;obtain⟨H,J,K,M,N⟩:=bK0;obtain⟨O,Q,T⟩:=Bd X.snd;have l:=bP7;clear X));have X:=l.out;exact ca1
theorem tw(b:Bool)(g:Nat)(c:Case)(u:eX c.ch)(j:Nat)(x:c.ch-1=j)(h:S.aO[j]?=false)(i:Mach.take S g (2*c.ch-2) 26 27=(S,false))(r:Ring)(d:S.au[j]?=r)(k:(r.put c.v).2=b)(z:Int)(f:b/\z=1\/b=false/\z=0):gt 171 #[bR F,I g,.agg #[c.cF,c.ch,c.v]] w (eL (.tuple #[.agg #[z,I 0,I 0,b,I 0],.bool b,.bool false]) λw'=>At af F m w m w' (S.dZ j (r.put c.v).1)):=by
 rcases f with⟨rfl,rfl⟩|⟨rfl,rfl⟩
 all_goals
  obtain⟨ie,y⟩:=bL3;have hs:IntKind.i64.wrap (c.ch-1)=(j:Int):=cx7
  obtain⟨cb,l,c6,cx⟩:=R.ka h;have De:j<S.aO.length:=um h;have aU:=bO9;have EX:=R.lt l;obtain⟨rr,rb,n,o,_,_⟩:=R.iJ d;obtain⟨p,q⟩:=dA d o;have A:=ag (aG.au j r d);have C:=ag n;have vy:j<S.au.length:=um d;have E:=ag i;have G:=ag k;clear R h l x i aG d n o k;unfold bR;go_enter func171,ntmps171;go_wp2_with fail
  go_quiet (fail);go_wp2_with (first|(go_at_call 176;refine(kh c.ch u).mono ?_;rintro e w1 ⟨rfl,rfl⟩)|(go_at_call 96;refine(aY3 y.out.aI E).mono ?_;rintro e wN ⟨rfl,X⟩;obtain⟨H,J,K,M,N⟩:=bS3;obtain⟨O,Q,T,U,W⟩:=bK0;obtain⟨Y,Z,q2⟩:=Bd X.snd;have RN:=bP5;obtain⟨a0,Hw,s,t,d5,dp⟩:=RN.iJ p;rw[C.out]at s;rw[q.out]at t;cases s;cases t;have l1:=bS4;clear RN;have HY:=bP7;clear X));refine WP 11 kX kX ?_;change wpStill _ _ (World.drew _) (λa=>wpList _ _ _ _ a (World.drew _)) _ _;simp only[sS,aW1,sU,rC];repeat still_step
  refine aj0 ?_;go_wp2_with (go_at_call 153;refine(DM HY.out.aI p q A c.v).mono ?_;rw[G.out];rintro e wM ⟨rfl,X⟩;obtain⟨H,J,K,M,N⟩:=bS3;obtain⟨O,Q,T,U,W⟩:=bK0;obtain⟨Y,Z,q2⟩:=Bd X.snd;have HZ:=bP7;clear X);have X:=HZ.out;refine aZ7 ii ii (aV1 X.head) bu0 ?_;refine⟨ii,At.xF ?_ (X.loc _ (rn ..)).2 (aj5 _) _ _ _ _ _⟩;exact X.at_.aI
theorem zM(g:Nat)(c:Case)(b:eX c.ch)(S':Wd)(a:Mach.take S g (2*c.ch-1) 26 27=(S',true)):gt 172 #[bR F,I g,.agg #[c.cF,c.ch,c.v]] w (eL (.tuple #[.agg #[I 0,I 0,I 0,B false,I 0],.bool false,.bool true]) λw'=>At af F m w m w' S'):=by
 obtain⟨j,d⟩:=bL3;have f:=ag a;clear R a aG;unfold bR;go_enter func172,ntmps172;go_wp2_with (first|(go_at_call 177;refine(aH9 c.ch b).mono ?_;rintro e k ⟨rfl,rfl⟩)|(go_at_call 96;refine(aY3 d.out.aI f).mono ?_;rintro e l ⟨rfl,X⟩;obtain⟨n,o,p,q,r⟩:=bS3;obtain⟨s,t,u,x,y⟩:=bK0;obtain⟨z,A,C⟩:=Bd X.snd;have i:=bP7;clear X));have X:=i.out;exact ca1
theorem Bh(g:Nat)(c:Case)(p:eX c.ch)(j:Nat)(q:c.ch-1=j)(b:Mach.take S g (2*c.ch-1) 26 27=(S,false))(r:Ring)(a:S.au[j]?=r)(d:r.get.2.2):gt 172 #[bR F,I g,.agg #[c.cF,c.ch,c.v]] w (eL (.tuple #[.agg #[I 1,I 0,r.get.2.1,B true,I 0],.bool true,.bool false]) λw'=>At af F m w m w' (S.dZ j r.get.1)):=by
 obtain⟨Z,s⟩:=bL3;have hs:IntKind.i64.wrap (c.ch-1)=(j:Int):=cx7
 obtain⟨rr,rb,f,i,_,_⟩:=R.iJ a;obtain⟨k,l⟩:=dA a i;have t:=ag (aG.au j r a);have u:=ag f;have vy:j<S.au.length:=um a;have x:=ag b;have y:=ag d;clear R q b aG a f i d;unfold bR;go_enter func172,ntmps172;go_wp2_with (first|(go_at_call 177;refine(aH9 c.ch p).mono ?_;rintro e w1 ⟨rfl,rfl⟩)|(go_at_call 96;refine(aY3 s.out.aI x).mono ?_;rintro e wN ⟨rfl,X⟩;obtain⟨z,A,C,E,G⟩:=bS3;obtain⟨H,J,K,M,N⟩:=bK0;obtain⟨O,Q,T⟩:=Bd X.snd;have RN:=bP5;obtain⟨U,Hw,n,o,d5,dp⟩:=RN.iJ k;rw[u.out]at n;rw[l.out]at o;cases n;cases o;have l1:=bS4;clear RN;have W:=bP7;clear X));go_region_with (go_at_call 209;refine(Rb W.out.aI k l t).mono ?_;rw[y.out];rintro e wM ⟨rfl,X⟩;obtain⟨z,A,C,E,G⟩:=bS3;obtain⟨H,J,K,M,N⟩:=bK0;obtain⟨O,Q,T⟩:=Bd X.snd;have Y:=bP7;clear X)
 all_goals
  go_wp2;have X:=Y.out;exact ca1
theorem xj(b:Bool)(g:Nat)(c:Case)(t:eX c.ch)(j:Nat)(u:c.ch-1=j)(h:S.aO[j]?=b)(z:Int)(d:b/\z=1\/b=false/\z=0)(f:Mach.take S g (2*c.ch-1) 26 27=(S,false))(r:Ring)(a:S.au[j]?=r)(i:r.get.2.2=false):gt 172 #[bR F,I g,.agg #[c.cF,c.ch,c.v]] w (eL (.tuple #[.agg #[z,I 0,I 0,B false,I 0],.bool b,.bool false]) λw'=>At af F m w m w' (S.dZ j r.get.1)):=by
 rcases d with⟨rfl,rfl⟩|⟨rfl,rfl⟩
 all_goals
  obtain⟨ie,x⟩:=bL3;have hs:IntKind.i64.wrap (c.ch-1)=(j:Int):=cx7
  obtain⟨rr,rb,k,l,_,_⟩:=R.iJ a;obtain⟨n,o⟩:=dA a l;have y:=ag (aG.au j r a);have A:=ag k;have vy:j<S.au.length:=um a;have C:=ag f;have E:=ag i;have G:Hid ((S.dZ j r.get.1).aO[j]?=some _):=h;have De:j<S.aO.length:=um h;clear R u f aG a k l i h;unfold bR;go_enter func172,ntmps172;go_wp2_with (first|(go_at_call 177;refine(aH9 c.ch t).mono ?_;rintro e w1 ⟨rfl,rfl⟩)|(go_at_call 96;refine(aY3 x.out.aI C).mono ?_;rintro e wN ⟨rfl,X⟩;obtain⟨H,J,K,M,N⟩:=bS3;obtain⟨O,Q,T,U,W⟩:=bK0;obtain⟨Y,Z,q2⟩:=Bd X.snd;have RN:=bP5;obtain⟨a0,Hw,p,q,d5,dp⟩:=RN.iJ n;rw[A.out]at p;rw[o.out]at q;cases p;cases q;have l1:=bS4;clear RN;have HY:=bP7;clear X));go_region_with (go_at_call 209;refine(Rb HY.out.aI n o y).mono ?_;rw[E.out];rintro e wM ⟨rfl,X⟩;obtain⟨H,J,K,M,N⟩:=bS3;obtain⟨O,Q,T,U,W⟩:=bK0;obtain⟨Y,Z,q2⟩:=Bd X.snd;have RN:=bP5;obtain⟨cb,s,c6,cx⟩:=RN.ka G;have l1:=bS4;have l2:=RN.lt s;rw[show(S.dZ j r.get.1).aO.length=S.aO.length from rfl]at c6;clear RN s;have HZ:=bP7;clear X)
  all_goals
   go_wp2_with fail
   go_quiet (fail);go_wp2;have X:=HZ.out;exact ca1
end
theorem Bi(R:bz af F w m S)(g:Nat)(o:cu)(q:o.cases.length<=1000)(r:1<=o.cases.length)(f:am)(i:Nat)(S':Wd)(a:j3 S g o=S'):gt 174 #[F.aQ,I g,.agg #[o.ai,o.ch,o.n,o.v,(f,o.cases.length,i),o.dG]] w (ee (To af F m w S')):=by
 unfold j3 at a;simp only[bW,cI]at a;obtain⟨x,j,a⟩:=a;by_cases b:kJ x.k=false
 .rw[aF b]at a;cases a
 rw[aE b]at a;have l:=lM b;by_cases d:x.k+1<x.aH.length
 .rw[aF d]at a
  cases a;exact(AX R g x j x.k ii l o f _ i d).mono λe w' ⟨b,p⟩=>⟨b,m,p⟩
 rw[aE d]at a
 cases c:o.dG with
 |true=>
  rw[c,aF rfl]at a;unfold te fL at a;rw[az j]at a
  cases a;have h:=AY R g x j x.k ii l o f o.cases i d c;rw[c]at h;exact h.mono λe w' ⟨b,p⟩=>⟨b,m,p⟩
 |false=>
  rw[c,aE sX]at a
  cases a;have h:=AZ R g x j x.k ii l o f o.cases i d c r q;rw[c]at h;exact h
theorem Qk{S:Wd}{b:Bool}(h:idx S.aO Y=b):∃n:Nat,Y=n/\S.aO[n]?=b:=by
 obtain⟨n,a,_,c⟩:=mO h;exact⟨n,a,c⟩
theorem Gh{v:Int}{S1:Wd}{b:Bool}(h:aH8 S Y v=(S1,b)):∃(j:Nat) (r:Ring),Y-1=j/\S.au[j]?=r/\S1=S.dZ j (r.put v).1/\b=(r.put v).2:=by
 unfold aH8 kq at h;simp only[bW,cI]at h;obtain⟨⟨j,r⟩,⟨c,a,g,d,e⟩,f⟩:=h
 cases e
 cases f;exact⟨_,_,du a,d,ii,ii⟩
theorem Gi{v:Int}{S1:Wd}{b:Bool}(h:getRing S Y=(S1,v,b)):∃(j:Nat) (r:Ring),Y-1=j/\S.au[j]?=r/\S1=S.dZ j r.get.1/\v=r.get.2.1/\b=r.get.2.2:=by
 unfold getRing kq at h;simp only[bW,cI]at h;obtain⟨⟨j,r⟩,⟨c,a,g,d,e⟩,f⟩:=h
 cases e
 cases f;exact⟨_,_,du a,d,ii,ii,ii⟩
section
variable(R:bz af F w m S)(aG:Good S)(g:Nat)(c:Case)(bO:eX c.ch)(S1:Wd)(r:nP)(dn tk:Bool)
include R aG g c bO S1 r dn tk
theorem Bj(a:j4 S g c=(S1,r,dn,tk)):gt 171 #[F.aQ,I g,.agg #[c.cF,c.ch,c.v]] w (eL (.tuple #[.agg #[r.aJ,r.case,r.v,r.ok,r.n],.bool dn,.bool tk]) λw'=>At af F m w m w' S1):=by
 unfold j4 at a;simp only[bW,cI]at a;obtain⟨o,b,a⟩:=a;obtain⟨j,i,b⟩:=Qk b
 cases o with
 |true=>
  simp only[dt,oZ]at a
  cases a;have h:=xG R g c j oX oX b;exact h
 |false=>
  simp only[nW,dF,cI]at a;obtain⟨⟨S2,p⟩,d,a⟩:=a
  cases p with
  |true=>
   simp only[dt,oZ]at a
   cases a;exact zL R aG g c bO j i b S1 d
  |false=>
   have e:=KH d;subst e;simp only[nW,dF,cI]at a;obtain⟨⟨t,q⟩,s,a⟩:=a;obtain⟨k,rg,u,l,rfl,rfl⟩:=Gh s;obtain rfl:k=j:=oX
   cases f:(rg.put c.v).2 with
   |true=>
    simp only[f,dt,oZ]at a
    cases a;exact tw R aG _ g c bO k i b d rg l f _ (.inl ⟨ii,ii⟩)
   |false=>
    simp only[f,nW,dF,oZ]at a
    cases a;exact tw R aG _ g c bO k i b d rg l f _ (.inr ⟨ii,ii⟩)
theorem Bk(a:j5 S g c=(S1,r,dn,tk)):gt 172 #[F.aQ,I g,.agg #[c.cF,c.ch,c.v]] w (eL (.tuple #[.agg #[r.aJ,r.case,r.v,r.ok,r.n],.bool dn,.bool tk]) λw'=>At af F m w m w' S1):=by
 unfold j5 at a;simp only[bW,cI]at a;obtain⟨⟨S2,o⟩,b,a⟩:=a
 cases o with
 |true=>
  simp only[dt,oZ]at a
  cases a
  obtain⟨j,f⟩:∃j:Nat,c.ch-1=j\/c.ch-1<0:=by
   rcases Int.lt_or_le (c.ch-1) 0 with h|h
   .exact⟨0,.inr h⟩
   obtain⟨n,d⟩:=pz h;exact⟨n,.inl d⟩
  exact zM R aG g c bO S1 b
 |false=>
  have e:=KH b;subst e;simp only[nW,dF,cI]at a;obtain⟨⟨t,v,p⟩,q,a⟩:=a;obtain⟨j,rg,f,k,rfl,rfl,rfl⟩:=Gi q
  cases d:rg.get.2.2 with
  |true=>
   simp only[d,dt,oZ]at a
   cases a;exact Bh R aG g c bO j f b rg k d
  |false=>
   simp only[d,nW,dF,cI]at a;obtain⟨s,i,a⟩:=a;obtain⟨l,u,i⟩:=Qk i;obtain rfl:l=j:=oX
   cases s with
   |true=>
    simp only[dt,oZ]at a
    cases a;exact xj R aG _ g c bO l f i _ (.inl ⟨ii,ii⟩) b rg k d
   |false=>
    simp only[nW,dF,oZ]at a
    cases a;exact xj R aG _ g c bO l f i _ (.inr ⟨ii,ii⟩) b rg k d
end
section
variable(X:AB af F m0 w0 m w S L)
include X
theorem sx(b:Good S)(g:Nat){c:Case}(d:eX c.ch){S1:Wd}{r:nP}{a:Bool}(f:j4 S g c=(S1,r,Z,a)):gt 171 #[bR F,I g,.agg #[c.cF,c.ch,c.v]] w (eL (.tuple #[.agg #[r.aJ,r.case,r.v,r.ok,r.n],.bool Z,.bool a]) λw'=>AB af F m0 w0 m w' S1 L):=
 (Bj X.bj b g c d S1 r Z a f).mono λe w' ⟨h,i⟩=>⟨h,X.av i⟩
theorem sy(b:Good S)(g:Nat){c:Case}(d:eX c.ch){S1:Wd}{r:nP}{a:Bool}(f:j5 S g c=(S1,r,Z,a)):gt 172 #[bR F,I g,.agg #[c.cF,c.ch,c.v]] w (eL (.tuple #[.agg #[r.aJ,r.case,r.v,r.ok,r.n],.bool Z,.bool a]) λw'=>AB af F m0 w0 m w' S1 L):=
 (Bk X.bj b g c d S1 r Z a f).mono λe w' ⟨h,i⟩=>⟨h,X.av i⟩
theorem Gj(g:Nat){o:cu}(c:o.cases.length<=1000)(d:1<=o.cases.length)(a:am)(b:Nat){S':Wd}(f:j3 S g o=S'):gt 174 #[bR F,I g,.agg #[o.ai,o.ch,o.n,o.v,(a,o.cases.length,b),o.dG]] w (ee λw'=>∃D,AB af F m0 w0 D w' S' L):=
 (Bi X.bj g o c d a b S' f).mono λe w' ⟨h,D,i⟩=>⟨h,D,X.av i⟩
theorem Bl{S':Wd}(a:eH S b=S'):gt 114 #[bR F,I b] w (ee λw'=>AB af F m0 w0 m w' S' L):=
 (rm X.bj b S' a).mono λe w' ⟨c,d⟩=>⟨c,X.av d⟩
theorem TL(c:S.gs[b]?=e)(r:nP):gt 173 #[bR F,I b,.agg #[r.aJ,r.case,r.v,r.ok,r.n]] w (ee λw'=>AB af F m0 w0 m w' (S.ay b (eZ {e with res:=r,lQ:=S.av,fire:=r.case} 30)) L):=
 (Ce X.bj b e c r).mono λa w' ⟨d,f⟩=>⟨d,X.av f⟩
theorem yd(c:S.gs[b]?=e)(d:dU e=Y):gt 170 #[F.aQ,I b] w λa w'=>a=Y/\∃n,w'=w.drewN n:=vX X.bj b e c Y d
end
def CB(b:Nat)(a:Obj)(d:List Case):Prop:=∀(W:World),W.heap[b]?=a->∀(j:Nat) c,d[j]?=some c->W.cell? (b,j*3)=B c.cF/\W.cell? (b,j*3+1)=I c.ch/\W.cell? (b,j*3+2)=I c.v
theorem dm.block{v:Value}{g:List Case}(h:dm b w' v g)(A:At af F m w m w' S)(R:bz af F w m S)(u:w<=b)(l:g≠[]):∃d cap f,v=.slice (some ⟨d,0,none⟩) g cap/\CB d f g/\AB af F m w m w' S [(d,f)]:=by
 rcases h with h|⟨d,cap,x,n,y,o,q⟩
 .exact aX h.1 l
 obtain⟨f,i⟩:∃f,w'.heap[d]?=some f:=⟨_,xL o⟩;refine⟨d,cap,f,n,λW r j c s=>?_,A,λp k=>?_⟩
 .have t:W.heap[d]?=w'.heap[d]?:=r.trans i.symm;have e:∀j,W.cell? ⟨d,j,none⟩=w'.cell? ⟨d,j,none⟩:=λj=>kZ (w:=w') (w':=W) (a:=⟨d,j,none⟩) t
  rw[e,e,e];exact q j c s
 simp at k;subst k;exact⟨i,R.iT (by show w.heap.size<=d;omega)⟩
theorem AB.xF{b:Nat}{c d e f g:Value}(X:AB af F m0 w0 m w S ((b,.cells #[c,d,e,f,g] 44)::L))(o:w0<=b)(q:∀p∈L,p.1≠b)(i j k l n:Value):AB af F m0 w0 m (((((w.setCell b i).setCell (b,1) j).setCell (b,2) k).setCell (b,3) l).setCell (b,4) n) S ((b,.cells #[i,j,k,l,n] 44)::L):=by
 refine⟨X.at_.xF (X.loc _ (rn ..)).2 o _ _ _ _ _,λp r=>?_⟩;rcases iL.1 r with h|h
 .subst h;exact⟨aV1 X.head,(X.loc (b,.cells #[c,d,e,f,g] 44) (rn ..)).2⟩
 refine⟨?_,(X.loc p (nO _ h)).2⟩;have s:=(X.loc p (nO _ h)).1;have a:=q p h;rw[fQ a,fQ a,fQ a,fQ a,fQ a];exact s
section
variable(X:AB af F m0 w0 m w S L)
include X
theorem AB.vn(a b:Obj):AB af F m0 w0 m ((w.alloc a).alloc b) S ((w+1,b)::(w,a)::L):=by
 have h:=(X.alloc a).alloc b;rw[show(w.alloc a).heap.size=w.heap.size+1 by simp]at h;exact h
theorem AB.Ql(a:Obj):∀p∈(w.heap.size,a)::L,p.1≠w+1:=by
 intro p b;rcases iL.1 b with h|h
 .subst h;show w.heap.size≠_;omega
 have:=(dh (X.loc p h).1).1;omega
theorem AB.sizeLe:w0<=w.heap.size:=X.at_.mv.size
end
theorem AB.case{a f c d e:Value}(X:AB af F m0 w0 m w S ((b,.cells #[a,f,c,d,e] 44)::L))(g:w0<=b)(hL:∀p∈L,p.1≠b)(v:Value):AB af F m0 w0 m (w.setCell (b,1) v) S ((b,.cells #[a,v,c,d,e] 44)::L):=by
 refine⟨X.at_.other (X.loc _ (rn ..)).2 g _,λp i=>?_⟩;rcases iL.1 i with h|h
 .subst h;exact⟨ms _ b 1 _ _ v X.head,(X.loc (b,.cells #[a,f,c,d,e] 44) (rn ..)).2⟩
 exact ch1
section
variable(X0:AB af F m0 w0 m w S L)(aG:Good S)(g:Nat)(x:bI)(hx:S.gs[g]?=x)(i:Int)(hi:dU x=i)(o:cu)(dj:o.cases.length<=1000)(nb:Nat)(ob:Obj)(fD:(nb,ob)∈L)(fP:CB nb ob o.cases)(cc:Nat)(k:Nat)(hk:i=k)(c:Case)(hc:o.cases[k]?=c)(bO:eX c.ch)(S1:Wd)(r:nP)
include X0 aG g x hx i hi o dj nb ob fD fP cc k hk c hc bO S1 r
theorem zN(f:Bool)(a:(c.cF/\j4 S g c=(S1,r,f,true))\/(c.cF=false/\j5 S g c=(S1,r,f,true)))(S':Wd)(j:eH S1 g=S'):gt 113 #[bR F,I g,.agg #[o.ai,o.ch,o.n,o.v,(nb,o.cases.length,cc),o.dG]] w (ee λw'=>∃D,AB af F m0 w0 D w' S' L):=by
 rcases a with⟨b,a⟩|⟨b,a⟩
 all_goals
  have vA:k<o.cases.length:=um hc;have Jl:1<=o.cases.length:=oX
  obtain⟨y,z,A⟩:=bS5;have Vb:nb<w:=(dh (X0.loc _ fD).1).1;have C:=bS6;obtain⟨l,Zn,xW⟩:=bK7;obtain⟨E,q,s,t,G⟩:=jW hx hi aG a j;rw[hk]at q;obtain⟨cs,ch,cv⟩:=c;simp only at b bO y z A;subst b;clear X0 aG hx hi fD fP hc a j;subst hk;unfold bR;go_enter func113,ntmps113;go_wp2_with (first|(go_at_call 170;refine(yd C.out.aI E q).mono ?_;rintro e w1 ⟨rfl,nq,rfl⟩)|(go_at_call 171;refine(sx l.out.aI s g bO t).mono ?_;rintro e H ⟨rfl,X⟩;obtain⟨J,K,M,N,O⟩:=bS3;obtain⟨Q,R,T,U,W⟩:=bK0;obtain⟨Y,Z,q2,q3,q4,q5⟩:=jD X.snd;have HY:=bP7;clear X)|(go_at_call 172;refine(sy l.out.aI s g bO t).mono ?_;rintro e H ⟨rfl,X⟩;obtain⟨J,K,M,N,O⟩:=bS3;obtain⟨Q,R,T,U,W⟩:=bK0;obtain⟨Y,Z,q2,q3,q4,q5⟩:=jD X.snd;have HY:=bP7;clear X));have u:=bS7;have d:=ag u;clear u;go_wp2_with (go_at_call 114;refine(Bl (S:=S1) d.out.aI G).mono ?_;rintro e wM ⟨rfl,X⟩;have HZ:=bP7;clear X);exact cf1
theorem Cl(a:(c.cF/\j4 S g c=(S1,r,true,false))\/(c.cF=false/\j5 S g c=(S1,r,true,false)))(N:bI)(O:S1.gs[g]?=N):gt 113 #[bR F,I g,.agg #[o.ai,o.ch,o.n,o.v,(nb,o.cases.length,cc),o.dG]] w (ee λw'=>∃D,AB af F m0 w0 D w' (S1.ay g (eZ {N with res:={r with case:=i},lQ:=S1.av,fire:=i} 30)) L):=by
 rcases a with⟨b,a⟩|⟨b,a⟩
 all_goals
  have vA:k<o.cases.length:=um hc;have Jl:1<=o.cases.length:=oX
  obtain⟨Z,n1,n2⟩:=bS5;have Vb:nb<w:=(dh (X0.loc _ fD).1).1;have jc:=bS6;obtain⟨Q,Zn,xW⟩:=bK7;obtain⟨oR,R,T,U,H2⟩:=jW hx hi aG a O;rw[hk]at R;obtain⟨cs,ch,cv⟩:=c;simp only at b bO Z n1 n2;subst b;clear X0 aG hx hi fD fP hc a O;subst hk;unfold bR;go_enter func113,ntmps113;go_upto_region 11 with(first|(go_at_call 170;refine(yd jc.out.aI oR R).mono ?_;rintro e w1 ⟨rfl,nq,rfl⟩)|(go_at_call 171;refine(sx Q.out.aI T g bO U).mono ?_;rintro e wN ⟨rfl,X⟩;obtain⟨d,f,j,l,q⟩:=bS3;obtain⟨s,t,u,y,z⟩:=bK0;obtain⟨A,C,E,G,H,J⟩:=jD X.snd;have HY:=bP7;clear X)|(go_at_call 172;refine(sy Q.out.aI T g bO U).mono ?_;rintro e wN ⟨rfl,X⟩;obtain⟨d,f,j,l,q⟩:=bS3;obtain⟨s,t,u,y,z⟩:=bK0;obtain⟨A,C,E,G,H,J⟩:=jD X.snd;have HY:=bP7;clear X))
  have W:=bS7;obtain⟨K,Y,X⟩:∃K,K=_/\AB af F m0 w0 m K S1 _:=⟨_,ii,W⟩;rw[<-Y];have M:=ag (X.case (as3 xW) Zn (I k));clear Y d f j l q s t z u y A C E G H J;obtain⟨d,f,j,l,q⟩:=bS3;obtain⟨s,t,u,y,z⟩:=bK0;obtain⟨A,C,E,G,H,J⟩:=jD X.snd;clear X;clear W;go_wp2_with (go_at_call 173;refine(TL (S:=S1) M.out.aI H2 {r with case:=k}).mono ?_;rintro e wM ⟨rfl,X⟩;have HZ:=bP7;clear X);exact cf1
theorem Cm(a:(c.cF/\j4 S g c=(S1,r,false,false))\/(c.cF=false/\j5 S g c=(S1,r,false,false)))(S':Wd)(f:j3 S1 g o=S'):gt 113 #[bR F,I g,.agg #[o.ai,o.ch,o.n,o.v,(nb,o.cases.length,cc),o.dG]] w (ee λw'=>∃D,AB af F m0 w0 D w' S' L):=by
 rcases a with⟨b,a⟩|⟨b,a⟩
 all_goals
  have vA:k<o.cases.length:=um hc;have u:1<=o.cases.length:=oX
  obtain⟨y,z,A⟩:=bS5;have Vb:nb<w:=(dh (X0.loc _ fD).1).1;have C:=bS6;obtain⟨j,Zn,xW⟩:=bK7;obtain⟨E,l,q,s,G⟩:=jW hx hi aG a f;rw[hk]at l;obtain⟨cs,ch,cv⟩:=c;simp only at b bO y z A;subst b;clear X0 aG hx hi fD fP hc a f;subst hk;unfold bR;go_enter func113,ntmps113;go_wp2_with (first|(go_at_call 170;refine(yd C.out.aI E l).mono ?_;rintro e w1 ⟨rfl,nq,rfl⟩)|(go_at_call 171;refine(sx j.out.aI q g bO s).mono ?_;rintro e H ⟨rfl,X⟩;obtain⟨J,K,M,N,O⟩:=bS3;obtain⟨Q,R,T,U,W⟩:=bK0;obtain⟨Y,Z,q2,q3,q4,q5⟩:=jD X.snd;have HY:=bP7;clear X)|(go_at_call 172;refine(sy j.out.aI q g bO s).mono ?_;rintro e H ⟨rfl,X⟩;obtain⟨J,K,M,N,O⟩:=bS3;obtain⟨Q,R,T,U,W⟩:=bK0;obtain⟨Y,Z,q2,q3,q4,q5⟩:=jD X.snd;have HY:=bP7;clear X));have t:=bS7;have d:=ag t;clear t;go_wp2_with (go_at_call 174;refine(Gj (S:=S1) d.out.aI g dj u nb cc G).mono ?_;rintro e wM ⟨rfl,mN,X⟩;have HZ:=bP7;clear X);exact cf1
end
theorem qW{o:cu}{c:Case}(h:iF o Y=c):∃k:Nat,Y=k/\o.cases[k]?=c/\ -1000000000<=c.ch/\c.ch<=1000000000:=by
 unfold iF at h;simp only[bW,cI]at h;obtain⟨c2,d,a⟩:=h;obtain⟨k,e,_,f⟩:=mO d;by_cases b:kJ c2.ch=true
 .rw[aF b]at a
  cases a;exact⟨k,e,f,Ka.1 b⟩
 rw[aE b]at a;cases a
theorem TM(l:AB af F m0 w0 m w S L)(p:Good S)(g:Nat)(o:cu)(q:o.cases.length<=1000)(b:Nat)(d:Obj)(s:(b,d)∈L)(t:CB b d o.cases)(f:Nat)(S':Wd)(a:uE S g o=S'):gt 113 #[F.aQ,I g,.agg #[o.ai,o.ch,o.n,o.v,(b,o.cases.length,f),o.dG]] w (ee λw'=>∃D,AB af F m0 w0 D w' S' L):=by
 unfold uE at a;simp only[bW,cI]at a;obtain⟨x,u,i,y,c,H,a⟩:=a;obtain⟨k,z,A,B⟩:=qW H
 cases e:c.cF with
 |true=>
  rw[e]at a;simp only[dt,cI]at a;obtain⟨⟨S1,r,C,E⟩,h,a⟩:=a
  cases E with
  |true=>
   simp only[dt]at a;exact zN l p g x u i y o q b d s t f k z c A B S1 r C (.inl ⟨e,h⟩) S' a
  |false=>
   simp only[nW,dF]at a
   cases C with
   |true=>
    simp only[dt]at a;unfold te fL at a
    cases j:S1.gs[g]? with
    |none=>rw[j]at a;cases a
    |some G=>
     rw[j]at a
     cases a;exact Cl l p g x u i y o q b d s t f k z c A B S1 r (.inl ⟨e,h⟩) G j
   |false=>
    simp only[nW,dF]at a;exact Cm l p g x u i y o q b d s t f k z c A B S1 r (.inl ⟨e,h⟩) S' a
 |false=>
  rw[e]at a;simp only[nW,dF,cI]at a;obtain⟨⟨S1,r,C,E⟩,h,a⟩:=a
  cases E with
  |true=>
   simp only[dt]at a;exact zN l p g x u i y o q b d s t f k z c A B S1 r C (.inr ⟨e,h⟩) S' a
  |false=>
   simp only[nW,dF]at a
   cases C with
   |true=>
    simp only[dt]at a;unfold te fL at a
    cases j:S1.gs[g]? with
    |none=>rw[j]at a;cases a
    |some G=>
     rw[j]at a
     cases a;exact Cl l p g x u i y o q b d s t f k z c A B S1 r (.inr ⟨e,h⟩) G j
   |false=>
    simp only[nW,dF]at a;exact Cm l p g x u i y o q b d s t f k z c A B S1 r (.inr ⟨e,h⟩) S' a
end
variable{Pb:Nat->Prop}
structure GA(P:Nat->Prop)(w:World)(A:dl)(x:bI)(st:Int):Prop where
 size:A.size=25
 one:A.all (·.oneCell')
 ops:∃oa oc,A[0]?=some (.slice oa x.ops oc)/\ix opE P w oa x.ops
 at_:A[1]?=I x.at_
 pl:A[2]?=I x.ae
 st:A[3]?=I st
 call:A[5]?=I x.call
 ar:A[11]?=I x.bJ
 pt:A[12]?=I x.lQ
 wi:A[13]?=I x.bF
 fi:A[14]?=I x.fire
 r0:A[15]?=I x.res.aJ
 r1:A[16]?=I x.res.case
 r2:A[17]?=I x.res.v
 r3:A[18]?=B x.res.ok
 r4:A[19]?=I x.res.n
 ord:∃b d,A[20]?=some (.slice b x.aH d)
def gE:nR (bI×Int):=⟨25,λP w u f=>GA P w f.toArray u.1 u.2,λh=>by have:=h.size;simpa using this,λh u g=>by have:=h.one;simp at this;exact this u g,λh e=>{e with ops:=by obtain⟨a,b,c,d⟩:=e.ops;exact⟨a,b,c,d.Ur h⟩},λh e=>{e with ops:=by obtain⟨a,b,c,d⟩:=e.ops;exact⟨a,b,c,d.mono (by decide) h⟩}⟩
theorem aZ8{a:am}{d:List (bI×Int)}(h:wS gE Pb u f a d){c:bI×Int}(g:d[z]?=c):∃b off A,a=(b,off)/\GA Pb u A c.1 c.2/\∀W,kL f W->∀(q:Nat) v,A[q]?=some v->W.cell? ⟨b,off+z*25+q,none⟩=v:=by
 obtain⟨b,off,i,rfl,hF,R,_⟩:=h.get (n:=25) g;refine⟨b,off,i.toArray,ii,hF,λW j q v e=>?_⟩;have k:q<25:=by have:=(dh e).1;have:=hF.size;omega
 rw[R W j q k];simpa using e
def lvE:nR Bool:=⟨7,λ_ _ l g=>∃(a b c:Int) (d:Bool) (e:Int) (f:Bool),g=[B l,a,b,c,d,e,f],by rintro _ _ _ _ ⟨_,_,_,_,_,_,rfl⟩;rfl,by rintro _ _ _ _ ⟨_,_,_,_,_,_,rfl⟩;simp[Value.oneCell'],λ_ h=>h,λ_ h=>h⟩
def lkE:nR Int:=⟨6,λ_ _ l b=>∃(a:Int) (d:am) (e d1:Nat) (c:Bool) (f:am) (g d2:Nat) (i:am) (j d3:Nat),b=[I a,(d,e,d1),c,l,(f,g,d2),(i,j,d3)],by rintro _ _ _ _ ⟨_,_,_,_,_,_,_,_,_,_,_,rfl⟩;rfl,by rintro _ _ _ _ ⟨_,_,_,_,_,_,_,_,_,_,_,rfl⟩;simp[Value.oneCell'],λ_ h=>h,λ_ h=>h⟩
abbrev Uo(b c e g h s f i j k a d:Value):Value:=.agg #[b,c,e,g,h,s,f,i,j,k,a,d]
variable{v0 v1 v2 vg vh vs v6 v7 v8 v9 v10 vd:Value}
theorem bm8(A:dl)(a:Int)(b:A[3]?=I a)(d:a≠0)(w:World):gt 34 #[.agg A] w (eL (B false) (kL w)):=by
 go_enter func34,ntmps34;go_upto_region 1 with fail
 generalize hW:World.alloc w _=e;obtain⟨L,S,⟨c,_⟩,_⟩:=bN5;clear hW;have f:∀W,kL e W->W.cell? (w.heap.size,3)=I a:=λW h=>(c W h 3 (dh b).1).trans b
 clear c;have g:(a==0)=false:=by simpa using d
 go_wp2;go_ret;exact⟨cj4,L⟩
theorem bm9(a:List (bI×Int))(f:am)(l:Nat)(w:World)(H:ix gE Pb w f a)(g:∀u∈a,u.2≠0):gt 33 #[(f,a.length,l),.func (.func 34) #[] #[]] w (eL (I 0) (kL w)):=by
 have B:=H.1;obtain⟨m,n⟩:=dA H g;have o:=ag bm8;clear H g;go_enter func33,ntmps33;go_wp2;go_loopw [5,10] (λc i wr=>∃j:Nat,c=I 0/\j<=a.length/\i=.int .i64 j/\kL w wr) (λ_ i _=>a.length-(intOf i).toNat)
 case atStart=>exact⟨0,ii,wn _,ii,sX⟩
 obtain⟨j,rfl,C,rfl,hb⟩:=hrel;by_cases p:j<a.length
 .obtain⟨u,d⟩:∃u,a[j]?=some u:=⟨_,fv p⟩;obtain⟨b,off,A,rfl,k,R⟩:=aZ8 m d;have HG:=ag k;have r:=ag (n.out u (lf d));have s:=R wr hb;clear d k R
  go_upto_region 5 with(first
   |(refine wpList_load_mid ii 100 (.tmp 12) ii b (off+j*25) ii A s cQ.1 cj6 ?_)
   |(refine df ii 100 (.tmp 7) (.tmp 13) ii wr ii A ii ii cj6 co1 HG.out.one ?_))
  generalize hW:World.alloc wr _=D;obtain⟨L2,S2,⟨E,_⟩,t⟩:=bN5;have x:=bN6;clear hW
  go_wp2_with (first
   |(refine wpList_load_mid ii 100 (.tmp 7) ii wr 0 rfl A (λq v y=>by rw[wl,cr t.out];exact y) cQ.1 cj6 ?_)
   |(go_at_call 34;refine(o A _ HG.out.st r _).mono ?_;rintro e F ⟨rfl,z⟩))
  refine⟨⟨j+1,ii,oX,cj8,x.trans z⟩,cj2⟩
 go_wp2;go_ret;exact⟨ii,hb⟩