import Derived.Test.YtadifmnmfnihdaaGreatA10
import Derived.Test.YtadifmnmfnihdaaGreatA12
set_option linter.all false
set_option maxRecDepth 100000
set_option maxHeartbeats 40000000
namespace Go.Proofs.YtadifmnmfnihdaaGreat
open Go.RowKit Mach Go.Proofs.Tryz
variable{e:bI}{Z:Bool}{Y:Int}{b n:Nat}{T:fE}
section
variable{af:Nat}{F:Fx}{w w0 w':World}{m m0 m':Mem}{S S':Wd}{L:List (Nat×Obj)}
section
variable(R:bz af F w m S)(aG:Good S)(g:Nat)(x:bI)(hx:S.gs[g]?=x)(o:cu)(ho:dH S g=o)(bO:eX o.ch)(dj:o.cases.length<=1000)(hk:o.ai=2\/o.ai=4)
include R aG g x hx o ho bO dj hk
theorem aY8{S':Wd}(hm:(x.ae=1/\aW7 S g o.ch=S')\/(x.ae=2/\jG S g o.ch=S')\/(x.ae=5/\jH S g o.ch=S')\/(x.ae=7/\rD S g 6 8=S')\/(x.ae=8/\aW8 S g o.v=S')\/(x.ae=9/\jY S g o=S')\/(x.ae=10/\rE S g {cK:=true,g:=g,ch:=o.ch,case:= -1,cF:=true,v:=o.v}=S')\/(x.ae=14/\lu S g=S')):gt 61 #[bR F,I g] w (oV (To af F m w S')):=by
 have q:=bM1;have i:=bM3;rcases hk with hk|hk<;>rcases hm with⟨hp,hm⟩|⟨hp,hm⟩|⟨hp,hm⟩|⟨hp,hm⟩|⟨hp,hm⟩|⟨hp,hm⟩|⟨hp,hm⟩|⟨hp,hm⟩
 all_goals
  first
   |have j:(o.ai !=2)=false:=cj1
   |(have j:(o.ai !=2)=true:=by rw[hk];rfl
     have r:(o.ai !=4)=false:=cj1)
  obtain⟨HX,k,l,f,a⟩:=bW6;clear R hx ho hp hk aG hm;unfold bR;go_enter func61,ntmps61;go_wp2_with (go_at_call 92;refine(Uq i g HX k dj).mono ?_;rintro e s ⟨⟨t,rfl,jB⟩,A1⟩;obtain⟨ca,cc,rfl⟩:=bV0;have R1:=bR3;have n:=bR4;rw[l.out]at n;obtain⟨c3,u,y⟩:=bK9;have b:=bW7;clear A1 R1 jB);go_wp2_with (first|(go_at_call 93;refine(PN b.out.aI g o bO ca o.cases cc a).mono ?_;rintro e d ⟨rfl,X⟩;have c:=bP7;clear X)|(go_at_call 94;refine(Mr b.out.aI g o f bO ca o.cases cc a).mono ?_;rintro e d ⟨rfl,X⟩;have c:=bP7;clear X)|(go_at_call 95;refine(Ms b.out.aI g o f bO ca o.cases cc a).mono ?_;rintro e d ⟨rfl,X⟩;have c:=bP7;clear X)|(go_at_call 99;refine(PS b.out.aI a).mono ?_;rintro e d ⟨rfl,X⟩;have c:=bP7;clear X)|(go_at_call 100;refine(PO b.out.aI g o ca o.cases cc a).mono ?_;rintro e d ⟨rfl,p,X⟩;have c:=bP7;clear X)|(go_at_call 101;refine(PQ b.out.aI g o f bO ca o.cases cc a).mono ?_;rintro e d ⟨rfl,X⟩;have c:=bP7;clear X)|(go_at_call 102;refine(Ti b.out.aI f a).mono ?_;rintro e d ⟨rfl,p,X⟩;have c:=bP7;clear X)|(go_at_call 104;refine(PR b.out.aI g o ca o.cases cc a).mono ?_;rintro e d ⟨rfl,X⟩;have c:=bP7;clear X));go_ret;exact⟨ii,ss c⟩
theorem Qh(hp:x.ae=6)(S':Wd)(hm:Mach.take S g (2*o.ch-2) 7 8=(S',true)):gt 61 #[bR F,I g] w (oV (To af F m w S')):=by
 have p:=bM1;have b:=bM3;rcases hk with hk|hk
 all_goals
  first
   |have c:(o.ai !=2)=false:=cj1
   |(have c:(o.ai !=2)=true:=by rw[hk];rfl
     have q:(o.ai !=4)=false:=cj1)
  obtain⟨HX,d,f,r,i⟩:=bW6;clear R hx ho hp hk aG hm;unfold bR;go_enter func61,ntmps61;go_wp2_with (go_at_call 92;refine(Uq b g HX d dj).mono ?_;rintro e s ⟨⟨t,rfl,jB⟩,A1⟩;obtain⟨ca,cc,rfl⟩:=bV0;have R1:=bR3;have a:=bR4;rw[f.out]at a;obtain⟨c3,u,v⟩:=bK9;have j:=bW7;clear A1 R1 jB);go_wp2_with (first|(go_at_call 97;refine(uf j.out.aI g o bO ca o.cases cc).mono ?_;rintro e k ⟨rfl,X⟩;have l:=bP7;clear X)|(go_at_call 96;refine(aY3 l i).mono ?_;rintro e k ⟨rfl,X⟩;obtain⟨y,z,a,A,B,C,D,E⟩:=bP6;have n:=bP7;clear X));go_ret;exact⟨ii,ss n⟩
theorem Qi(hp:x.ae=6)(S2 S':Wd)(hm:Mach.take S g (2*o.ch-2) 7 8=(S2,false))(a:Gt S2 g 9=S'):gt 61 #[bR F,I g] w (oV (To af F m w S')):=by
 obtain⟨t,b,rfl⟩:=Nb a;have f:=ag b;clear a b;have u:=bM1;have i:=bM3;rcases hk with hk|hk
 all_goals
  first
   |have j:(o.ai !=2)=false:=cj1
   |(have j:(o.ai !=2)=true:=by rw[hk];rfl
     have v:(o.ai !=4)=false:=cj1)
  obtain⟨HX,k,l,y,n⟩:=bW6;clear R hx ho hp hk aG hm;unfold bR;go_enter func61,ntmps61;go_wp2_with (go_at_call 92;refine(Uq i g HX k dj).mono ?_;rintro e z ⟨⟨A,rfl,jB⟩,A1⟩;obtain⟨ca,cc,rfl⟩:=bV0;have R1:=bR3;have c:=bR4;rw[l.out]at c;obtain⟨c3,B,C⟩:=bK9;have p:=bW7;clear A1 R1 jB);go_wp2_with (first|(go_at_call 97;refine(uf p.out.aI g o bO ca o.cases cc).mono ?_;rintro e d ⟨rfl,X⟩;have q:=bP7;clear X)|(go_at_call 96;refine(aY3 q n).mono ?_;rintro e d ⟨rfl,X⟩;obtain⟨D,E,c,G,H,J,K,M⟩:=bP6;have r:=bP7;clear X)|(go_at_call 98;refine(ig (S:=S2) r g f o ca o.cases cc 9).mono ?_;rintro e d ⟨rfl,X⟩;have s:=bP7;clear X));go_ret;exact⟨ii,ss s⟩
theorem Qj(hp:x.ae=11)(S2:Wd)(hm:lh S (2*o.ch-1) x.bY=S2):gt 61 #[bR F,I g] w (oV λw'=>To af F m w (S2.ay g {x with bJ:=S2.av,ae:=12}) w'):=by
 obtain⟨r,k⟩:∃r,x.bY=r:=⟨_,ii⟩;have i:=ag k;rw[k]at hm;clear k;have l:S2.gs=S.gs:=by obtain⟨q,b,_,rfl⟩:=qk hm;rfl
 have n:Hid (S2.gs[g]?=x):=by rw[l];exact hx
 have Me:g<S2.gs.length:=by rw[l];exact(um hx)
 clear l;have eM:=bM1;have y:=bM3;rcases hk with hk|hk
 all_goals
  first
   |have z:(o.ai !=2)=false:=cj1
   |(have z:(o.ai !=2)=true:=by rw[hk];rfl
     have Eu:(o.ai !=4)=false:=cj1)
  obtain⟨HX,A,B,ie,C⟩:=bW6;clear R hx ho hp hk aG hm;unfold bR;go_enter func61,ntmps61;go_wp2_with (go_at_call 92;refine(Uq y g HX A dj).mono ?_;rintro e p ⟨⟨cv,rfl,jB⟩,A1⟩;obtain⟨d,f,rfl⟩:=bV0;have R1:=bR3;have s:=bR4;rw[B.out]at s;obtain⟨c3,Gu,aU⟩:=bK9;have c8:=R1.dR;have D:=R1.g HX 8 _ ii;rw[i.out]at D;obtain⟨j,t,c⟩:∃j,j=_/\AB af F m w m j S [(p.heap.size+1,iY F g o d o.cases f),(p.heap.size,iD o d f)]:=⟨_,ii,(AB.qn A1).oP (iD o d f) (iY F g o d o.cases f)⟩;obtain⟨E,G,Nx,H,J,K,M,N⟩:=jo c.head;obtain⟨o0,o1,o2,o3,o4,o5⟩:=jD (c.loc (p.heap.size,iD o d f) (nO _ (rn ..))).1;have d3:=c.bj.eu;have d8:=c.bj.dR;have O:=c.bj.g HX 8 _ ii;rw[i.out]at O;have Q:=ag c;clear c A1 R1 jB);rw[<-t];clear t;have T:IntKind.i64.wrap (2*o.ch-1)=2*o.ch-1:=jX oX;have U:IntKind.i64.wrap (2*o.ch)=2*o.ch:=jX oX;refine WP 16 kX kX ?_;change wpStill _ _ j.drew (λa=>wpList _ _ _ _ a j.drew) _ _;simp only[sS,aW1,sU,rC];repeat still_step
  refine aj0 ?_;clear T U;go_wp2_with (go_at_call 103;refine(zy Q.out.aI C).mono ?_;rintro e W ⟨⟨bb,rfl⟩,X⟩;have RN:=bP5;obtain⟨E,G,s,H,J,K,M,N⟩:=bP6;have e2:=RN.dM;have e3:=RN.eu;have Y:=RN.g n 11 _ ii;have Z:=bV3;have nb:=bP8;have Kn:=bP9;have u:=X.g n {x with bJ:=S2.av} (q:=11) (v:=I S2.av);have ux:=ag u;clear u;have My:=bP7;clear X RN);go_region
  all_goals
   go_wp2_with (go_at_call 98;refine(ig (S:=S2.ay g {x with bJ:=S2.av}) ux.out.aI g (az n) o d o.cases f 12).mono ?_;rintro e W ⟨rfl,X⟩;have uz:=bP7;clear X);go_ret;exact⟨ii,m,uz.out.at_.eq aA⟩
theorem TK(j:x.ae≠1/\x.ae≠2/\x.ae≠5/\x.ae≠6/\x.ae≠7/\x.ae≠8/\x.ae≠9/\x.ae≠10/\x.ae≠11/\x.ae≠14)(S':Wd)(d:Bool)(k:gH S g=(S',d)):gt 61 #[bR F,I g] w (eL (.bool d) (To af F m w S')):=by
 obtain⟨a,i⟩:∃a,x.ae=a:=⟨_,ii⟩;rw[i]at j;obtain⟨l,n,p,q,r,s,t,b,c,f⟩:=j;have K:(a==1)=false:=by simpa using l
 have M:(a==2)=false:=by simpa using n
 have N:(a==5)=false:=by simpa using p
 have O:(a==6)=false:=by simpa using q
 have Q:(a==7)=false:=by simpa using r
 have T:(a==8)=false:=by simpa using s
 have U:(a==9)=false:=by simpa using t
 have u:(a==10)=false:=by simpa using b
 have v:(a==11)=false:=by simpa using c
 have y:(a==14)=false:=by simpa using f
 clear l n p q r s t b c f;have W:=bM1;have z:=bM3;rcases hk with hk|hk
 all_goals
  first
   |have A:(o.ai !=2)=false:=cj1
   |(have A:(o.ai !=2)=true:=by rw[hk];rfl
     have Y:(o.ai !=4)=false:=cj1)
  obtain⟨HX,B,C,D,E⟩:=jW hx ho i aG k;clear R hx ho i hk aG k;unfold bR;go_enter func61,ntmps61;go_wp2_with (go_at_call 92;refine(Uq z g HX B dj).mono ?_;rintro e Z ⟨⟨cv,rfl,jB⟩,A1⟩;obtain⟨ca,cc,rfl⟩:=bV0;have R1:=bR3;have G:=bR4;rw[C.out]at G;obtain⟨c3,Gu,aU⟩:=bK9;have H:=bW7;clear A1 R1 jB);go_wp2_with (go_at_call 105;refine(jP H.out.aI D E).mono ?_;rintro e wN ⟨rfl,mN,X⟩;have J:=bP7;clear X);go_ret;exact⟨ii,ss J⟩
end
theorem vm(R:bz af F w m S)(g:Nat)(x:bI)(b:S.gs[g]?=x)(o:cu)(c:dH S g=o)(dj:o.cases.length<=1000)(a:o.ai≠2/\o.ai≠4):gt 61 #[bR F,I g] w (eL (.bool false) (To af F m w S)):=by
 have HR:=bM3;have d:(o.ai !=2)=true:=by simpa using a.1
 have f:(o.ai !=4)=true:=by simpa using a.2
 obtain⟨HX,HO⟩:=dA b c;clear R b c a;unfold bR;go_enter func61,ntmps61;exact ca5
theorem dS{y:Option Wd}{S':Wd}(h:yes y=(S',Z)):y=S'/\Z:=by
 cases y with
 |none=>simp[yes]at h
 |some z=>simp[yes]at h;exact⟨by rw[h.1],h.2⟩
theorem Jk(R:bz af F w m S)(j:Good S)(g:Nat)(S':Wd)(d:Bool)(a:jq S g=(S',d)):gt 61 #[F.aQ,I g] w (eL (.bool d) (To af F m w S')):=by
 unfold jq at a;simp only[bW,cI]at a;obtain⟨o,e,x,f,a⟩:=a;obtain⟨e,k,i⟩:=nB e;by_cases c:o.ai≠2/\o.ai≠4
 .rw[aF c]at a
  cases a;exact vm R g x f o e i c
 rw[aE c]at a;have c:o.ai=2\/o.ai=4:=oX
 by_cases p:x.ae=1
 .rw[aF p]at a;obtain⟨b,rfl⟩:=dS a;exact aY8 R j g x f o e k i c (.inl ⟨p,b⟩)
 rw[aE p]at a;by_cases l:x.ae=2
 .rw[aF l]at a;obtain⟨b,rfl⟩:=dS a;exact aY8 R j g x f o e k i c (.inr (.inl ⟨l,b⟩))
 rw[aE l]at a;by_cases q:x.ae=5
 .rw[aF q]at a;obtain⟨b,rfl⟩:=dS a;exact aY8 R j g x f o e k i c (.inr (.inr (.inl ⟨q,b⟩)))
 rw[aE q]at a;by_cases n:x.ae=6
 .rw[aF n]at a;simp only[cI]at a;obtain⟨⟨S2,r⟩,l,a⟩:=a
  cases r with
  |true=>
   cases a;exact Qh R j g x f o e k i c n _ l
  |false=>
   obtain⟨b,rfl⟩:=dS a;exact Qi R j g x f o e k i c n _ _ l b
 rw[aE n]at a;by_cases r:x.ae=7
 .rw[aF r]at a;obtain⟨b,rfl⟩:=dS a;exact aY8 R j g x f o e k i c (.inr (.inr (.inr (.inl ⟨r,b⟩))))
 rw[aE r]at a;by_cases s:x.ae=8
 .rw[aF s]at a;obtain⟨b,rfl⟩:=dS a;exact aY8 R j g x f o e k i c (.inr (.inr (.inr (.inr (.inl ⟨s,b⟩)))))
 rw[aE s]at a;by_cases t:x.ae=9
 .rw[aF t]at a;obtain⟨b,rfl⟩:=dS a;exact aY8 R j g x f o e k i c (.inr (.inr (.inr (.inr (.inr (.inl ⟨t,b⟩))))))
 rw[aE t]at a;by_cases u:x.ae=10
 .rw[aF u]at a;obtain⟨b,rfl⟩:=dS a;exact aY8 R j g x f o e k i c (.inr (.inr (.inr (.inr (.inr (.inr (.inl ⟨u,b⟩)))))))
 rw[aE u]at a;by_cases v:x.ae=11
 .rw[aF v]at a;obtain⟨b,rfl⟩:=dS a;unfold rF at b;simp only[bW,cI,f,oZ,exists_eq_left']at b;obtain⟨S2,l,b⟩:=b;subst b;exact Qj R j g x f o e k i c v _ l
 rw[aE v]at a;by_cases y:x.ae=14
 .rw[aF y]at a;obtain⟨b,rfl⟩:=dS a;exact aY8 R j g x f o e k i c (.inr (.inr (.inr (.inr (.inr (.inr (.inr ⟨y,b⟩)))))))
 rw[aE y]at a;exact TK R j g x f o e k i c ⟨p,l,q,n,r,s,t,u,v,y⟩ _ _ a
theorem Js(R:bz af F w m S)(f:Good S)(g:Nat)(x:bI)(e:S.gs[g]?=x)(c:Int)(i:eX c)(o:x.ae=1\/x.ae=2\/x.ae=3)(S':Wd)(a:aW9 S g c=S'):gt 106 #[F.aQ,I g,c] w (ee λw'=>At af F m w m w' S'):=by
 unfold aW9 at a;simp only[bW,e,eN]at a;by_cases k:x.ae=1
 .rw[aF k]at a;simp only[cI]at a;obtain⟨b,d,a⟩:=a
  cases b with
  |true=>
   simp only[dt]at a;obtain⟨n,j,rfl⟩:=Nb a;rw[e]at j
   cases j;exact Pn R f g x e c i k d
  |false=>
   simp only[nW,dF,oZ]at a;subst a;exact Po R f g x e c i k d
 rw[aE k]at a;by_cases l:x.ae=2
 .rw[aF l]at a
  cases d:dK S c with
  |true=>
   simp only[d,dt]at a;obtain⟨n,j,rfl⟩:=Nb a;rw[e]at j
   cases j;exact Pp R f g x e c i l d
  |false=>
   simp only[d,nW,dF,oZ]at a;subst a;exact Pq R f g x e c i l d
 rw[aE l]at a;simp only[cI]at a;obtain⟨b,d,a⟩:=a
 cases b with
 |true=>
  simp only[dt,oZ]at a;subst a;exact Pr R f g x e c i oX d
 |false=>
  simp only[nW,dF,oZ]at a;subst a;exact Ps R f g x e c i oX d
section
variable(X:AB af F m0 w0 m w S L)(aG:Good S)(g:Nat)(hx:S.gs[g]?=e)
include X aG g hx
theorem QD(b:eX Y)(c:e.ae=1\/e.ae=2\/e.ae=3){S':Wd}(d:aW9 S g Y=S'):gt 106 #[bR F,I g,Y] w (ee λw'=>∃m',AB af F m0 w0 m' w' S' L):=
 (Js X.bj aG g e hx Y b c S' d).mono λa w' ⟨f,h⟩=>⟨f,m,X.av h⟩
theorem Jt{o:cu}(f:eX o.ch)(b:am)(c d:Nat)(h:e.ae=5\/e.ae=6\/e.ae=7\/e.ae=8\/e.ae=9){S':Wd}(i:iE S g o=S'):gt 107 #[bR F,I g,.agg #[o.ai,o.ch,o.n,o.v,(b,c,d),o.dG]] w (ee λw'=>∃m',AB af F m0 w0 m' w' S' L):=
 (DV X.bj aG g e hx o f b c d h S' i).mono λa w' ⟨j,m',k⟩=>⟨j,m',X.av k⟩
theorem QE(b:eX Y)(c:e.ae=10\/e.ae=11\/e.ae=14){S':Wd}(d:j1 S g Y=S'):gt 108 #[bR F,I g,Y] w (ee λw'=>∃m',AB af F m0 w0 m' w' S' L):=
 (IT X.bj aG g e hx Y b c S' d).mono λa w' ⟨f,m',h⟩=>⟨f,m',X.av h⟩
end
theorem kG(c:S.gs[b]?=e){o:cu}(d:mf S b=o)(a:eO e.ae=false):gH S b=(S,false):=by
 unfold eO at a;simp only[decide_eq_false_iff_not,not_or]at a;obtain⟨f,g,h,i,j,k⟩:=a;unfold gH;simp only[bW,c,d,eN,aE f,aE g,aE h,aE i,aE j,aE k]
section
variable(R:bz af F w m S)(aG:Good S)(g:Nat)(x:bI)(hx:S.gs[g]?=x)(o:cu)(ho:dH S g=o)(bO:eX o.ch)(dj:o.cases.length<=1000)(hk:o.ai=3\/o.ai=5)
include R aG g x hx o ho bO dj hk
theorem TU(hp:eO x.ae)(S':Wd)(hm:gH S g=(S',true)):gt 62 #[bR F,I g] w (oV (To af F m w S')):=by
 have k:=bM1;have a:=bM3;rcases hk with hk|hk
 all_goals
  first
   |have b:(o.ai !=3)=false:=cj1
   |(have b:(o.ai !=3)=true:=by rw[hk];rfl
     have l:(o.ai !=5)=false:=cj1)
  obtain⟨HX,c,n,d,f⟩:=bW6;clear R hx ho hp hk aG hm;unfold bR;go_enter func62,ntmps62;go_wp2_with (go_at_call 92;refine(Uq a g HX c dj).mono ?_;rintro e p ⟨⟨q,rfl,jB⟩,A1⟩;obtain⟨ca,cc,rfl⟩:=bV0;have R1:=bR3;have r:=bR4;skip;obtain⟨c3,s,t⟩:=bK9;have i:=bV1;clear A1 R1 jB);go_wp2_with (go_at_call 105;refine(jP i.out.aI d f).mono ?_;rintro e u ⟨rfl,v,X⟩;have j:=bP7;clear X);go_ret;exact⟨ii,ss j⟩
theorem TV(hp:x.ae=1\/x.ae=2\/x.ae=3)(a:mf S g=o)(S':Wd)(hm:aW9 S g o.ch=S'):gt 62 #[bR F,I g] w (oV (To af F m w S')):=by
 have r:=bM1;have d:=bM3;rcases hk with hk|hk<;>rcases hp with hp|hp|hp
 all_goals
  first
   |have f:(o.ai !=3)=false:=cj1
   |(have f:(o.ai !=3)=true:=by rw[hk];rfl
     have s:(o.ai !=5)=false:=cj1)
  have i:=ag a;clear a;obtain⟨HX,j,HP,b,k⟩:=bW6;clear R hx ho hp hk aG hm;unfold bR;go_enter func62,ntmps62;go_wp2_with (go_at_call 92;refine(Uq d g HX j dj).mono ?_;rintro e t ⟨⟨u,rfl,jB⟩,A1⟩;obtain⟨ca,cc,rfl⟩:=bV0;have R1:=bR3;have c:=bR4;skip;obtain⟨c3,v,y⟩:=bK9;have l:=bV1;clear A1 R1 jB);go_wp2_with (first|(go_at_call 105;refine(jP l.out.aI b (kG HX i cn6)).mono ?_;rintro e z ⟨rfl,A,X⟩;have RN:=bP5;obtain⟨B,C,D,E,G,H⟩:=bR6;have c:=bR7;rw[HP.out]at c;have c3:=RN.eu;have n:=bP7;clear X RN)|(go_at_call 106;refine(QD n.out.aI b g HX bO cn6 k).mono ?_;rintro e J ⟨rfl,p,X⟩;have q:=bP7;clear X));go_ret;exact⟨ii,ss q⟩
theorem TW(hp:x.ae=5\/x.ae=6\/x.ae=7\/x.ae=8\/x.ae=9)(a:mf S g=o)(S':Wd)(hm:iE S g o=S'):gt 62 #[bR F,I g] w (oV (To af F m w S')):=by
 have r:=bM1;have d:=bM3;rcases hk with hk|hk<;>rcases hp with hp|hp|hp|hp|hp
 all_goals
  first
   |have f:(o.ai !=3)=false:=cj1
   |(have f:(o.ai !=3)=true:=by rw[hk];rfl
     have s:(o.ai !=5)=false:=cj1)
  have i:=ag a;clear a;obtain⟨HX,j,HP,b,k⟩:=bW6;clear R hx ho hp hk aG hm;unfold bR;go_enter func62,ntmps62;go_wp2_with (go_at_call 92;refine(Uq d g HX j dj).mono ?_;rintro e t ⟨⟨u,rfl,jB⟩,A1⟩;obtain⟨ca,cc,rfl⟩:=bV0;have R1:=bR3;have c:=bR4;skip;obtain⟨c3,v,y⟩:=bK9;have l:=bV1;clear A1 R1 jB);go_wp2_with (first|(go_at_call 105;refine(jP l.out.aI b (kG HX i cn6)).mono ?_;rintro e z ⟨rfl,A,X⟩;have RN:=bP5;obtain⟨B,C,D,E,G,H⟩:=bR6;have c:=bR7;rw[HP.out]at c;have c3:=RN.eu;have n:=bP7;clear X RN)|(go_at_call 107;refine(Jt n.out.aI b g HX bO ca o.cases cc cn6 k).mono ?_;rintro e J ⟨rfl,p,X⟩;have q:=bP7;clear X));go_ret;exact⟨ii,ss q⟩
theorem QF(hp:x.ae=10\/x.ae=11\/x.ae=14)(a:mf S g=o)(S':Wd)(hm:j1 S g o.ch=S'):gt 62 #[bR F,I g] w (oV (To af F m w S')):=by
 have r:=bM1;have d:=bM3;rcases hk with hk|hk<;>rcases hp with hp|hp|hp
 all_goals
  first
   |have f:(o.ai !=3)=false:=cj1
   |(have f:(o.ai !=3)=true:=by rw[hk];rfl
     have s:(o.ai !=5)=false:=cj1)
  have i:=ag a;clear a;obtain⟨HX,j,HP,b,k⟩:=bW6;clear R hx ho hp hk aG hm;unfold bR;go_enter func62,ntmps62;go_wp2_with (go_at_call 92;refine(Uq d g HX j dj).mono ?_;rintro e t ⟨⟨u,rfl,jB⟩,A1⟩;obtain⟨ca,cc,rfl⟩:=bV0;have R1:=bR3;have c:=bR4;skip;obtain⟨c3,v,y⟩:=bK9;have l:=bV1;clear A1 R1 jB);go_wp2_with (first|(go_at_call 105;refine(jP l.out.aI b (kG HX i cn6)).mono ?_;rintro e z ⟨rfl,A,X⟩;have RN:=bP5;obtain⟨B,C,D,E,G,H⟩:=bR6;have c:=bR7;rw[HP.out]at c;have c3:=RN.eu;have n:=bP7;clear X RN)|(go_at_call 108;refine(QE n.out.aI b g HX bO cn6 k).mono ?_;rintro e J ⟨rfl,p,X⟩;have q:=bP7;clear X));go_ret;exact⟨ii,ss q⟩
end
theorem Gw(R:bz af F w m S)(g:Nat)(x:bI)(b:S.gs[g]?=x)(o:cu)(c:dH S g=o)(dj:o.cases.length<=1000)(a:o.ai≠3/\o.ai≠5):gt 62 #[bR F,I g] w (eL (.bool false) (To af F m w S)):=by
 have HR:=bM3;have d:(o.ai !=3)=true:=by simpa using a.1
 have f:(o.ai !=5)=true:=by simpa using a.2
 obtain⟨HX,HO⟩:=dA b c;clear R b c a;unfold bR;go_enter func62,ntmps62;exact ca5
theorem Ju(R:bz af F w m S)(e:Good S)(g:Nat)(S':Wd)(a:jr S g=(S',true)):gt 62 #[F.aQ,I g] w (oV (To af F m w S')):=by
 unfold jr at a;simp only[bW,cI]at a;obtain⟨o,f,x,i,a⟩:=a;obtain⟨j,k,l⟩:=nB f;by_cases c:o.ai≠3/\o.ai≠5
 .rw[aF c]at a
  cases a
 rw[aE c]at a;have c:o.ai=3\/o.ai=5:=oX
 by_cases n:eO x.ae=true
 .rw[aF n]at a;exact TU R e g x i o j k l c n _ a
 rw[aE n]at a;by_cases b:x.ae=1\/x.ae=2\/x.ae=3
 .rw[aF b]at a;have d:=(dS a).1;exact TV R e g x i o j k l c b f _ d
 rw[aE b]at a;by_cases b:x.ae=5\/x.ae=6\/x.ae=7\/x.ae=8\/x.ae=9
 .rw[aF b]at a;have d:=(dS a).1;exact TW R e g x i o j k l c b f _ d
 rw[aE b]at a;by_cases b:x.ae=10\/x.ae=11\/x.ae=14
 .rw[aF b]at a;have d:=(dS a).1;exact QF R e g x i o j k l c b f _ d
 rw[aE b]at a
 cases a
section
variable(X:AB af F m0 w0 m w S L)
include X
theorem TX(a:Good S)(g:Nat)(b:eX Y){S':Wd}(c:uD S g Y=S'):gt 109 #[bR F,I g,Y] w (ee λw'=>∃m',AB af F m0 w0 m' w' S' L):=
 (Mh X.bj a g Y b S' c).mono λe w' ⟨d,f⟩=>⟨d,m,X.av f⟩
theorem QG(g:Nat)(a:eX Y){S':Wd}(b:aZ4 S g Y=S'):gt 110 #[bR F,I g,Y] w (ee λw'=>∃m',AB af F m0 w0 m' w' S' L):=
 (Jr X.bj g Y a S' b).mono λe w' ⟨c,m',d⟩=>⟨c,m',X.av d⟩
theorem Gx(g:Nat){S':Wd}(a:aX0 S g=S'):gt 111 #[bR F,I g] w (ee λw'=>∃m',AB af F m0 w0 m' w' S' L):=
 (Bn X.bj g S' a).mono λe w' ⟨b,m',c⟩=>⟨b,m',X.av c⟩
end
section
variable(R:bz af F w m S)(aG:Good S)(g:Nat)(x:bI)(hx:S.gs[g]?=x)(o:cu)(ho:dH S g=o)(bO:eX o.ch)(dj:o.cases.length<=1000)(hk:o.ai=6)
include R aG g x hx o ho bO dj hk
theorem TZ(hp:eO x.ae)(S':Wd)(hm:gH S g=(S',true)):gt 63 #[bR F,I g] w (oV (To af F m w S')):=by
 have j:=bM1;have a:=bM3;have k:(o.ai !=6)=false:=cj1
 obtain⟨HX,b,l,c,d⟩:=bW6;clear R hx ho hp hk aG hm;unfold bR;go_enter func63,ntmps63;go_wp2_with (go_at_call 92;refine(Uq a g HX b dj).mono ?_;rintro e n ⟨⟨p,rfl,jB⟩,A1⟩;obtain⟨ca,cc,rfl⟩:=bV0;have R1:=bR3;have q:=bR4;obtain⟨c3,r,s⟩:=bK9;have f:=bV1;clear A1 R1 jB);go_wp2_with (go_at_call 105;refine(jP f.out.aI c d).mono ?_;rintro e t ⟨rfl,u,X⟩;have i:=bP7;clear X);go_ret;exact⟨ii,ss i⟩
theorem QH(hp:x.ae=21)(a:mf S g=o)(S':Wd)(hm:uD S g o.ch=S'):gt 63 #[bR F,I g] w (oV (To af F m w S')):=by
 have q:=bM1;have d:=bM3;have r:(o.ai !=6)=false:=cj1
 have f:=ag a;clear a;obtain⟨HX,i,HP,b,j⟩:=bW6;clear R hx ho hp hk aG hm;unfold bR;go_enter func63,ntmps63;go_wp2_with (go_at_call 92;refine(Uq d g HX i dj).mono ?_;rintro e s ⟨⟨t,rfl,jB⟩,A1⟩;obtain⟨ca,cc,rfl⟩:=bV0;have R1:=bR3;have c:=bR4;obtain⟨c3,u,v⟩:=bK9;have k:=bV1;clear A1 R1 jB);go_wp2_with (first|(go_at_call 105;refine(jP k.out.aI b (kG HX f cn6)).mono ?_;rintro e y ⟨rfl,z,X⟩;have RN:=bP5;obtain⟨A,B,C,D,E,G⟩:=bR6;have c:=bR7;rw[HP.out]at c;have c3:=RN.eu;have l:=bP7;clear X RN)|(go_at_call 109;refine(TX l.out.aI b g bO j).mono ?_;rintro e H ⟨rfl,n,X⟩;have p:=bP7;clear X));go_ret;exact⟨ii,ss p⟩
theorem QI(hp:x.ae=22)(a:mf S g=o)(S':Wd)(hm:aZ4 S g o.ch=S'):gt 63 #[bR F,I g] w (oV (To af F m w S')):=by
 have q:=bM1;have c:=bM3;have r:(o.ai !=6)=false:=cj1
 have d:=ag a;clear a;obtain⟨HX,f,HP,i,j⟩:=bW6;clear R hx ho hp hk aG hm;unfold bR;go_enter func63,ntmps63;go_wp2_with (go_at_call 92;refine(Uq c g HX f dj).mono ?_;rintro e s ⟨⟨t,rfl,jB⟩,A1⟩;obtain⟨ca,cc,rfl⟩:=bV0;have R1:=bR3;have b:=bR4;obtain⟨c3,u,v⟩:=bK9;have k:=bV1;clear A1 R1 jB);go_wp2_with (first|(go_at_call 105;refine(jP k.out.aI i (kG HX d cn6)).mono ?_;rintro e y ⟨rfl,z,X⟩;have RN:=bP5;obtain⟨A,B,C,D,E,G⟩:=bR6;have b:=bR7;rw[HP.out]at b;have c3:=RN.eu;have l:=bP7;clear X RN)|(go_at_call 110;refine(QG l.out.aI g bO j).mono ?_;rintro e H ⟨rfl,n,X⟩;have p:=bP7;clear X));go_ret;exact⟨ii,ss p⟩
theorem QJ(hp:x.ae=23)(a:mf S g=o)(S':Wd)(hm:aX0 S g=S'):gt 63 #[bR F,I g] w (oV (To af F m w S')):=by
 have q:=bM1;have c:=bM3;have r:(o.ai !=6)=false:=cj1
 have d:=ag a;clear a;obtain⟨HX,f,HP,i,j⟩:=bW6;clear R hx ho hp hk aG hm;unfold bR;go_enter func63,ntmps63;go_wp2_with (go_at_call 92;refine(Uq c g HX f dj).mono ?_;rintro e s ⟨⟨t,rfl,jB⟩,A1⟩;obtain⟨ca,cc,rfl⟩:=bV0;have R1:=bR3;have b:=bR4;obtain⟨c3,u,v⟩:=bK9;have k:=bV1;clear A1 R1 jB);go_wp2_with (first|(go_at_call 105;refine(jP k.out.aI i (kG HX d cn6)).mono ?_;rintro e y ⟨rfl,z,X⟩;have RN:=bP5;obtain⟨A,B,C,D,E,G⟩:=bR6;have b:=bR7;rw[HP.out]at b;have c3:=RN.eu;have l:=bP7;clear X RN)|(go_at_call 111;refine(Gx l.out.aI g j).mono ?_;rintro e H ⟨rfl,n,X⟩;have p:=bP7;clear X));go_ret;exact⟨ii,ss p⟩
end
theorem QK(R:bz af F w m S)(g:Nat)(x:bI)(a:S.gs[g]?=x)(o:cu)(b:dH S g=o)(dj:o.cases.length<=1000)(hk:o.ai≠6):gt 63 #[bR F,I g] w (eL (.bool false) (To af F m w S)):=by
 have HR:=bM3;have c:(o.ai !=6)=true:=cn9
 obtain⟨HX,HO⟩:=dA a b;clear R a b hk;unfold bR;go_enter func63,ntmps63;exact ca5
theorem Jv(R:bz af F w m S)(d:Good S)(g:Nat)(S':Wd)(a:js S g=(S',true)):gt 63 #[F.aQ,I g] w (oV (To af F m w S')):=by
 unfold js at a;simp only[bW,cI]at a;obtain⟨o,e,x,f,a⟩:=a;obtain⟨i,j,k⟩:=nB e;by_cases c:o.ai≠6
 .rw[aF c]at a
  cases a
 rw[aE c]at a;have c:o.ai=6:=oX
 by_cases l:eO x.ae=true
 .rw[aF l]at a;exact TZ R d g x f o i j k c l _ a
 rw[aE l]at a;by_cases b:x.ae=21
 .rw[aF b]at a;exact QH R d g x f o i j k c b e _ (dS a).1
 rw[aE b]at a;by_cases b:x.ae=22
 .rw[aF b]at a;exact QI R d g x f o i j k c b e _ (dS a).1
 rw[aE b]at a;by_cases b:x.ae=23
 .rw[aF b]at a;exact QJ R d g x f o i j k c b e _ (dS a).1
 rw[aE b]at a
 cases a
theorem Gy(y:AB af F m0 w0 m w S L)(z:Good S)(g:Nat)(o:cu)(d:Nat)(f:Obj)(A:(d,f)∈L)(B:CB d f o.cases)(p:Nat)(S':Wd)(a:jJ S g o=S'):gt 115 #[F.aQ,I g,.agg #[o.ai,o.ch,o.n,o.v,(d,o.cases.length,p),o.dG]] w (ee λw'=>∃m',AB af F m0 w0 m' w' S' L):=by
 unfold jJ at a;simp only[bW,cI]at a;obtain⟨x,C,i,D,s,h,c,E,S1,q,a⟩:=a;have h:=du h;obtain⟨k,r,G,H⟩:=qW E
 cases j:c.cF with
 |true=>
  rw[j]at a;simp only[dt,cI]at a;obtain⟨⟨S2,v⟩,⟨K,J,l⟩,e,t,a⟩:=a
  cases l;unfold fL at a
  cases b:e.gs[g]? with
  |none=>rw[b]at a;cases a
  |some u=>
   rw[b]at a
   cases a;subst r;grind [Jo]
 |false=>
  rw[j]at a;simp only[nW,dF,cI]at a;obtain⟨⟨S2,v⟩,l,e,t,a⟩:=a;unfold fL at a
  cases b:e.gs[g]? with
  |none=>rw[b]at a;cases a
  |some u=>
   rw[b]at a
   cases a;subst r;exact Jp y g x C _ D o d f A B p k ii c G j H s h S1 q (z.fZ q) S2 v l e t u b
theorem bg8{α:Type}{f:Nat->α->bi}:∀(l:List α) (i g:Nat) (x y:α),l[g]?=x->f (i+g) y=f (i+g) x->bT f i (l.set g y)=bT f i l
 | [],_,_,_,_,h,_=>cj5
 |z::l,i,0,x,y,h,hf=>by simp at h;subst h;simp only[ro,bT];grind
 |z::l,i,g+1,x,y,h,hf=>by simp only[qr,bT];rw[bg8 l (i+1) g x y ck0 cr7]
theorem At.yg(A:At af F m0 w0 m w S)(c:S.gs[n]?=e){k:Nat}(g:m.aV (.bA n)=b)(v:Int):At af F m0 w0 m (w.setCell (b,k) v) (S.ay n {e with bA:=e.bA.set k v}):=by
 refine A.set (r:=.bA n) g (by simp only[aj,az c,c,at9]) ?_;intro h j;have l:=cX (S:=S) (y:={e with bA:=e.bA.set k v}) c
 cases h<;>try(first|rfl|(simp only[aj,Wd.ay,kI];done))
 .exact bg8 (f:=gk m) S.gs 0 n e _ c (by simp only[gk,kI])
 all_goals
  simp only[aj,Wd.ay,l];first
  |(rename_i d;by_cases a:d=n
    .first|(subst a;simp only[dt,c];done)|(subst a;exact aX ii j)
    .simp only[aE a];done)
  |(rename_i d i;by_cases a:d=n
    .subst a;simp only[dt,c];done
    simp only[aE a];done)
theorem vr(X:AB af F m0 w0 m w S L)(c:S.gs[b]?=e)(d:dU e=Y):gt 170 #[bR F,I b] w (eL Y λw'=>AB af F m0 w0 m w' S L):=
 (vX X.bj b e c Y d).mono λa w' ⟨f,n,g⟩=>⟨f,g▸X.aI⟩
theorem At.bz0(A:At af F m0 w0 m w S)(a:S.ah[b]?=T)(y:fE):At af F m0 w0 m (((((((w.setCell (F.ah,b*7) y.cK).setCell (F.ah,b*7+1) y.g).setCell (F.ah,b*7+2) y.ch).setCell (F.ah,b*7+3) y.case).setCell (F.ah,b*7+4) y.cF).setCell (F.ah,b*7+5) y.v).setCell (F.ah,b*7+6) y.done) (S.cJ b y):=by
 have h:=A.Rw a y;simp only[World.setCells,aj2,Nat.reduceAdd]at h;exact h
theorem AB.QL(X:AB af F m0 w0 m w S L)(n:Nat):AB af F m0 w0 m (w.drewN n) S L:=X.aI
theorem AB.af4(X:AB af F m0 w0 m w S L)(n:Nat):AB af F m0 w0 m (w.drew.drewN n) S L:=X.aI
theorem jd{S:Wd}(h:b<S.gs):(S.ay b e).gs[b]?=e:=by simp[Wd.ay,h]
theorem AB.eqS{S':Wd}(X:AB af F m0 w0 m w S L)(h:S=S'):AB af F m0 w0 m w S' L:=h▸X
theorem zV(X:AB af F m0 w0 m w S L)(a:S.Eg.Ok)(c:b<S.Eg.aC):gt 154 #[F.Eg,I b] w (eL (.tuple #[(S.Eg.take b).2.1,.bool (S.Eg.take b).2.2]) λw'=>∃m',AB af F m0 w0 m' w' {S with Eg:=(S.Eg.take b).1} L):=
 (yW X.bj a b c).mono λe w' ⟨d,m',f⟩=>⟨d,m',X.av f⟩
section
variable(X0:AB af F m0 w0 m w S L)(aG:Good S)(g:Nat)(x:bI)(hx:S.gs[g]?=x)(o:cu)(nb:Nat)(ob:Obj)(fD:(nb,ob)∈L)(fP:CB nb ob o.cases)(cc:Nat)(p:fS)
include X0 aG g x hx o nb ob fD fP cc p
theorem DZ(v:Int)(c:S.Eg.take g=(p,v,false)):gt 116 #[bR F,I g,.agg #[o.ai,o.ch,o.n,o.v,(nb,o.cases.length,cc),o.dG]] w (ee λw'=>∃m',AB af F m0 w0 m' w' (({S with Eg:=p}:Wd).ay g (eZ {x with res:={x.res with aJ:=6}} 30)) L):=by
 have eM:=bM1;have R:=X0.bj;have c3:=R.eu;have s:=R.tf;obtain⟨t,u,y,z⟩:=R.pB;have d:=bS6;have f:=ag aG.Eg;have i:g<S.Eg.aC.length:=cq5
 have b:Hid (({S with Eg:=p}:Wd).gs[g]?=x):=hx;have j:=ag c;clear X0 R aG hx fD fP c;unfold bR;go_enter func116,ntmps116;go_wp2_with (go_at_call 154;refine(zV d.out.aI f i).mono ?_;rw[j.out];rintro e A ⟨rfl,B,X⟩;have a:=bP5;have C:=a.g b 15 _ ii;have D:=a.frozen a.aB.gs (g*25+15);have Y:=X.g b {x with res:={x.res with aJ:=6}} (q:=15) (v:=I 6);have k:=ag Y;clear X Y a);go_wp2_with (go_at_call 175;refine(aI7 (S:=({S with Eg:=p}:Wd).ay g {x with res:={x.res with aJ:=6}}) k.out.aI (az b) 30).mono ?_;rintro e E ⟨rfl,X⟩;rw[aA]at X;have l:=bP7;clear X);refine UV (ad8 ii _ _ _) ii ?_;exact⟨ii,_,l.out.less λp r=>nO _ r⟩
theorem Bp(j:Nat)(t:S.Eg.take g=(p,(j:Int),true))(kn k:Nat)(jA:x.k=kn)(Jw:(kn:Int)<=1000000000)(hi:x.aH[kn]?=(k:Int))(c:Case)(a:o.cases[k]?=c)(u:fE)(b:S.ah[j]?=u)(J:k<x.bA)(y:x.aH<=kn+1):gt 116 #[bR F,I g,.agg #[o.ai,o.ch,o.n,o.v,(nb,o.cases.length,cc),o.dG]] w (ee λw'=>∃m',AB af F m0 w0 m' w' ((({S with Eg:=p}:Wd).cJ j {cK:=true,g:=g,ch:=c.ch,case:=k,cF:=c.cF,v:=c.v}).ay g {x with bA:=x.bA.set k j,k:=0,ae:=29}) L):=by
 have eM:=bM1;have R:=X0.bj;have c3:=R.eu;have Fq:=R.tf;obtain⟨aU,Gu,aY,aZ⟩:=R.pB;have K:=bS6;have M:=ag aG.Eg;have N:g<S.Eg.aC.length:=cq5
 have oR:Hid (({S with Eg:=p}:Wd).gs[g]?=x):=hx;have vA:k<o.cases.length:=um a;have vy:j<S.ah.length:=um b;obtain⟨n,d⟩:=bS1;rw[<-d]at y;have hb:decide ((n:Int)<=(kn:Int)+1)=true:=ci8
 obtain⟨z,A⟩:∃z,x.bA[k]?=some z:=⟨_,fv J⟩;have C:dU x=(k:Int):=cl7
 have qH:Hid (({S with Eg:=p}:Wd).ah[j]?=u):=b;obtain⟨O,KK⟩:=dA t fP;have HM:=bW9;have HC:=ag a;obtain⟨f,Q,T,U⟩:=ia A jA d C;obtain⟨cs,ch,cv⟩:=c;clear X0 R aG hx fD fP t a b A jA d C hi y;unfold bR;go_enter func116,ntmps116;go_wp2_with (first|(go_at_call 154;refine(zV K.out.aI M N).mono ?_;rw[O.out];rintro e wL ⟨rfl,W,X⟩;have i:=bP7;clear X)|(go_at_call 170;refine(vr (S:={S with Eg:=p}) i.out.aI oR U).mono ?_;rintro e wN ⟨rfl,X⟩;have RN:=bP5;have l3:=bU0;have l4:=bS4;have l5:=RN.lt RN.aB.ah;have d3:=RN.eu;have d9:=RN.ax7;have Y:=RN.g oR 20 _ ii;obtain⟨oa,oc,D⟩:=bX0;rw[D,<-T.out]at Y;have Z:=RN.g oR 24 _ ii;rw[Q.out]at Z;have AL:=bR9;have p2:=RN.g oR 2 _ ii;have wW:=bR8;have Es:=RN.g oR 22 _ ii;obtain⟨sb,mB,E,T0⟩:=RN.ti oR f;rw[E]at Es;obtain⟨a0,e1,e7,l,e3,e5,NB⟩:=bJ7;have e2:=e1.symm;have e4:=e3.symm;have e6:=e5.symm;have e8:=e7.symm;have e9:=bW0;have Lj:=e9.symm;have a1:=l.symm;obtain⟨n0,n1,n2⟩:=bX1;have Vb:=bX2;obtain⟨q0,q1,q2,q3,q4,q5⟩:=bR6;have a2:=(dh X.head).1;have s0:=RN.s0 qH;obtain⟨a3,a4,a5,a6,a7,a8,a9⟩:=bJ8;have s1:=RN.s qH 1 _ ii;have s2:=RN.s qH 2 _ ii;have s3:=RN.s qH 3 _ ii;have s4:=RN.s qH 4 _ ii;have s5:=RN.s qH 5 _ ii;have s6:=RN.s qH 6 _ ii;obtain⟨Bm,HY⟩:=dA mB X;clear X RN mB E D));have Y1:=bX3;have Y2:=bX4;have G:=bX5;have H:=G.ye (n:=wN.heap.size) (.cells #[B cs,I ch,I cv] 52) (by simp[World.setCells]);have HZ:=ag (λn=>((((AB.QL H n).g (jd (by simp[Wd.ay,Wd.cJ,eM])) {x with bA:=x.bA.set k j,k:=0} (q:=24) (v:=I 0)).g (jd (by simp[Wd.ay,Wd.cJ,eM])) {x with bA:=x.bA.set k j,k:=0,ae:=29} (q:=2) (v:=I 29)).eqS (S':=(({S with Eg:=p}:Wd).cJ j {cK:=true,g:=g,ch:=ch,case:=k,cF:=cs,v:=cv}).ay g {x with bA:=x.bA.set k j,k:=0,ae:=29}) (by simp[Wd.ay,Wd.cJ,my])));clear Y1 Y2 G H;go_region
 all_goals
  go_wp2_with fail
  go_quiet (fail);go_wp2;go_end0;refine⟨ii,W,AB.less (L:=(wN.heap.size,.cells #[B cs,I ch,I cv] 52)::(w.heap.size,iD o nb cc)::L) ?_ λp hp=>nO _ (nO _ hp)⟩;exact HZ _
theorem zX(j:Nat)(t:S.Eg.take g=(p,(j:Int),true))(kn k:Nat)(jA:x.k=kn)(Jw:(kn:Int)<=1000000000)(hi:x.aH[kn]?=(k:Int))(c:Case)(a:o.cases[k]?=c)(u:fE)(b:S.ah[j]?=u)(H:k<x.bA)(y:¬x.aH<=kn+1):gt 116 #[bR F,I g,.agg #[o.ai,o.ch,o.n,o.v,(nb,o.cases.length,cc),o.dG]] w (ee λw'=>∃m',AB af F m0 w0 m' w' ((({S with Eg:=p}:Wd).cJ j {cK:=true,g:=g,ch:=c.ch,case:=k,cF:=c.cF,v:=c.v}).ay g {x with bA:=x.bA.set k j,k:=kn+1}) L):=by
 have eM:=bM1;have R:=X0.bj;have c3:=R.eu;have Fq:=R.tf;obtain⟨aU,Gu,aY,aZ⟩:=R.pB;have J:=bS6;have K:=ag aG.Eg;have M:g<S.Eg.aC.length:=cq5
 have oR:Hid (({S with Eg:=p}:Wd).gs[g]?=x):=hx;have vA:k<o.cases.length:=um a;have vy:j<S.ah.length:=um b;obtain⟨n,d⟩:=bS1;rw[<-d]at y;have hb:decide ((n:Int)<=(kn:Int)+1)=false:=ci8
 obtain⟨z,A⟩:∃z,x.bA[k]?=some z:=⟨_,fv H⟩;have C:dU x=(k:Int):=cl7
 have qH:Hid (({S with Eg:=p}:Wd).ah[j]?=u):=b;obtain⟨N,KK⟩:=dA t fP;have HM:=bW9;have HC:=ag a;obtain⟨f,O,Q,T⟩:=ia A jA d C;obtain⟨cs,ch,cv⟩:=c;clear X0 R aG hx fD fP t a b A jA d C hi y;unfold bR;go_enter func116,ntmps116;go_wp2_with (first|(go_at_call 154;refine(zV J.out.aI K M).mono ?_;rw[N.out];rintro e wL ⟨rfl,U,X⟩;have i:=bP7;clear X)|(go_at_call 170;refine(vr (S:={S with Eg:=p}) i.out.aI oR T).mono ?_;rintro e wN ⟨rfl,X⟩;have RN:=bP5;have l3:=bU0;have l4:=bS4;have l5:=RN.lt RN.aB.ah;have d3:=RN.eu;have d9:=RN.ax7;have W:=RN.g oR 20 _ ii;obtain⟨oa,oc,D⟩:=bX0;rw[D,<-Q.out]at W;have Y:=RN.g oR 24 _ ii;rw[O.out]at Y;have AL:=bR9;have p2:=RN.g oR 2 _ ii;have wW:=bR8;have Z:=RN.g oR 22 _ ii;obtain⟨sb,mB,E,T0⟩:=RN.ti oR f;rw[E]at Z;obtain⟨a0,e1,e7,l,e3,e5,NB⟩:=bJ7;have e2:=e1.symm;have e4:=e3.symm;have e6:=e5.symm;have e8:=e7.symm;have e9:=bW0;have Lj:=e9.symm;have a1:=l.symm;obtain⟨n0,n1,n2⟩:=bX1;have Vb:=bX2;obtain⟨q0,q1,q2,q3,q4,q5⟩:=bR6;have a2:=(dh X.head).1;have s0:=RN.s0 qH;obtain⟨a3,a4,a5,a6,a7,a8,a9⟩:=bJ8;have s1:=RN.s qH 1 _ ii;have s2:=RN.s qH 2 _ ii;have s3:=RN.s qH 3 _ ii;have s4:=RN.s qH 4 _ ii;have s5:=RN.s qH 5 _ ii;have s6:=RN.s qH 6 _ ii;obtain⟨Bm,HY⟩:=dA mB X;clear X RN mB E D));have Y1:=bX3;have Y2:=bX4;have G:=bX5;have HZ:=ag ((G.ye (n:=wN.heap.size) (.cells #[B cs,I ch,I cv] 52) (by simp[World.setCells])).eqS (S':=(({S with Eg:=p}:Wd).cJ j {cK:=true,g:=g,ch:=ch,case:=k,cF:=cs,v:=cv}).ay g {x with bA:=x.bA.set k j,k:=kn+1}) (by simp[Wd.ay,Wd.cJ,my]));clear Y1 Y2 G;go_region
 all_goals
  go_wp2_with fail
  go_quiet (fail);go_wp2;go_end0;refine⟨ii,U,AB.less (L:=(wN.heap.size,.cells #[B cs,I ch,I cv] 52)::(w.heap.size,iD o nb cc)::L) ?_ λp hp=>nO _ (nO _ hp)⟩;exact AB.af4 HZ _
end
section
variable(R:bz af F w m S)(g:Nat)(x:bI)(hx:S.gs[g]?=x)(kn k:Nat)(jA:x.k=kn)(Jw:(kn:Int)<=1000000000)(hi:x.aH[kn]?=(k:Int))(s:Int)(hs:x.bA[k]?=s)(S1:Wd)(h1:fZ S s=S1)
include R g x hx kn k jA Jw hi s hs S1 h1
theorem QM(d:x.aH<=kn+1):gt 120 #[bR F,I g] w (ee λw'=>At af F m w m w' (S1.ay g (eZ x 33))):=by
 have G:=bM1;have H:k<x.bA.length:=um hs;have c3:=R.eu;have J:=R.dR;have c:=R.g hx 22 _ ii;obtain⟨K,M,N,O⟩:=R.pB;obtain⟨Q,o,f,T⟩:=R.ti hx hs;rw[f]at c;obtain⟨n,hn⟩:=bS1;rw[<-hn]at d;have U:decide ((n:Int)<=(kn:Int)+1)=true:=ci8
 have hh:dU x=(k:Int):=cl7
 have i:=bM3;have eE:S1.gs[g]?=x:=by obtain⟨q,b,_,rfl⟩:=mF h1;exact hx
 obtain⟨p,jc,t,u,y,z⟩:=bX6;clear R hx eE h1 hn jA hh hi hs d o f;unfold bR;go_enter func120,ntmps120;go_wp2_with (go_at_call 170;refine(bb8 i.out.aI p z).mono ?_;rintro e A ⟨rfl,nq,rfl⟩);refine WP 11 kX kX ?_;change wpStill _ _ (World.drew _) (λa=>wpList _ _ _ _ a (World.drew _)) _ _;simp only[sS,aW1,sU,rC];repeat still_step
 refine aj0 ?_;go_wp2_with (go_at_call 150;refine(kv i.out.aI t).mono ?_;rintro e W ⟨⟨X,rfl⟩,A1⟩;have RN:=bR3;have B:=RN.g jc 20 _ ii;obtain⟨Y,Z,j⟩:=bX7;rw[j,<-u.out]at B;have C:=RN.g jc 24 _ ii;rw[y.out]at C;have AL:=bR9;have HB:=bO7;clear A1 RN j);go_quiet (fail);have l:=bX8;have D:=ag l;clear l;go_wp2_with (go_at_call 175;refine(xe (S:=S1.ay g {x with k:=kn+1}) D.out.aI (az jc) 33).mono ?_;rintro e A ⟨rfl,A1⟩;rw[aA]at A1;have E:=bO7;clear A1);go_end0;exact⟨ii,E⟩
theorem MQ(d:¬x.aH<=kn+1):gt 120 #[bR F,I g] w (ee λw'=>At af F m w m w' (S1.ay g {x with k:=kn+1})):=by
 have D:=bM1;have E:k<x.bA.length:=um hs;have c3:=R.eu;have G:=R.dR;have c:=R.g hx 22 _ ii;obtain⟨H,J,K,M⟩:=R.pB;obtain⟨N,o,f,O⟩:=R.ti hx hs;rw[f]at c;obtain⟨n,hn⟩:=bS1;rw[<-hn]at d;have Q:decide ((n:Int)<=(kn:Int)+1)=false:=ci8
 have hh:dU x=(k:Int):=cl7
 have i:=bM3;have eE:S1.gs[g]?=x:=by obtain⟨q,b,_,rfl⟩:=mF h1;exact hx
 obtain⟨p,jc,t,u,y,z⟩:=bX6;clear R hx eE h1 hn jA hh hi hs d o f;unfold bR;go_enter func120,ntmps120;go_wp2_with (go_at_call 170;refine(bb8 i.out.aI p z).mono ?_;rintro e T ⟨rfl,nq,rfl⟩);refine WP 11 kX kX ?_;change wpStill _ _ (World.drew _) (λa=>wpList _ _ _ _ a (World.drew _)) _ _;simp only[sS,aW1,sU,rC];repeat still_step
 refine aj0 ?_;go_wp2_with (go_at_call 150;refine(kv i.out.aI t).mono ?_;rintro e U ⟨⟨W,rfl⟩,A1⟩;have RN:=bR3;have A:=RN.g jc 20 _ ii;obtain⟨X,Y,j⟩:=bX7;rw[j,<-u.out]at A;have B:=RN.g jc 24 _ ii;rw[y.out]at B;have Z:=bR9;have HB:=bO7;clear A1 RN j);go_quiet (fail);have l:=bX8;have C:=ag l;clear l;go_wp2;go_end0;exact⟨ii,C.out.aI⟩
end
section
variable(X0:AB af F m0 w0 m w S L)(g:Nat)(x:bI)(hx:S.gs[g]?=x)(o:cu)(nb:Nat)(ob:Obj)(fD:(nb,ob)∈L)(fP:CB nb ob o.cases)(cc:Nat)(kn k:Nat)(jA:x.k=kn)(Jw:(kn:Int)<=1000000000)(hi:x.aH[kn]?=(k:Int))(c:Case)(hc:o.cases[k]?=c)(d:Int)(RY:c.cF/\d=1\/c.cF=false/\d=2)(bO:eX c.ch)(s:Int)(hs:x.bA[k]?=s)(S1:Wd)(h1:lh S (2*c.ch-d) s=S1)
include X0 g x hx o nb ob fD fP cc kn k jA Jw hi c hc d RY bO s hs S1 h1
theorem Co(i:x.aH<=kn+1):gt 117 #[bR F,I g,.agg #[o.ai,o.ch,o.n,o.v,(nb,o.cases.length,cc),o.dG]] w (ee λw'=>∃m',AB af F m0 w0 m' w' (S1.ay g (eZ {x with bJ:=S1.av} 30)) L):=by
 rcases RY with⟨RY,rfl⟩|⟨RY,rfl⟩
 all_goals
  have U:=bM1;have W:k<x.bA.length:=um hs;have Y:k<o.cases.length:=um hc;have R:=X0.bj;have c3:=R.eu;obtain⟨Z,Gu,aY,aZ⟩:=R.pB;obtain⟨n,hn⟩:=bS1;rw[<-hn]at i;have hb:decide ((n:Int)<=(kn:Int)+1)=true:=ci8
  have hh:dU x=(k:Int):=cl7
  have z:=bS6;have eE:S1.gs[g]?=x:=by obtain⟨q,b,_,rfl⟩:=qk h1;exact hx
  obtain⟨cs,j,cv⟩:=c;simp only at RY bO h1;subst RY;obtain⟨f,jc,A,B,C,D⟩:=bX6;have KK:=ag fP;have HM:=bW9;obtain⟨HC,E⟩:=dA hc hs;clear X0 R hx eE h1 hn jA hh hi hs i fD fP hc;unfold bR;go_enter func117,ntmps117;go_wp2_with (first|(go_at_call 170;refine(vr z.out.aI f D).mono ?_;rintro e wN ⟨rfl,X⟩;have RN:=bP5;have l3:=bU0;have l4:=bS4;have d8:=RN.dR;have G:=RN.g f 22 _ ii;obtain⟨sb,H,l,T0⟩:=RN.ti f E;rw[l]at G;obtain⟨n0,n1,n2⟩:=bX1;have Vb:=bX2;obtain⟨q0,q1,q2,q3,q4,q5⟩:=bR6;have J:=bP7;clear X RN H l)|(go_at_call 176;refine(kh j bO).mono ?_;rintro e t ⟨rfl,rfl⟩)|(go_at_call 177;refine(aH9 j bO).mono ?_;rintro e t ⟨rfl,rfl⟩));refine WP 12 kX kX ?_;change wpStill _ _ (World.drew _) (λa=>wpList _ _ _ _ a (World.drew _)) _ _;simp only[sS,aW1,sU,rC];repeat still_step
  refine aj0 ?_;go_wp2_with (go_at_call 103;refine(zy J.out.aI A).mono ?_;rintro e wM ⟨⟨bb,rfl⟩,X⟩;have RN:=bP5;have K:=RN.g jc 20 _ ii;obtain⟨oa,oc,u⟩:=bX7;rw[u,<-B.out]at K;have M:=RN.g jc 24 _ ii;rw[C.out]at M;have AL:=bR9;have t2:=RN.dM;have Z5:=bV3;have N:=RN.g jc 11 _ ii;have t3:=bW0;have t4:=t3.symm;have HZ:=bP7;clear X RN u);go_quiet (fail);have y:=bX9;have O:=ag (λn=>(AB.QL y n).g (az jc) {x with k:=kn+1,bJ:=S1.av} (q:=11) (v:=I S1.av));clear y;go_wp2_with (go_at_call 175;refine(aI7 (S:=(S1.ay g {x with k:=kn+1}).ay g {x with k:=kn+1,bJ:=S1.av}) (O _) (az (az jc)) 30).mono ?_;rintro e t ⟨rfl,X⟩;rw[aA,aA]at X;have Q:=bP7;clear X);go_end0;exact⟨ii,m,Q.out.less λp T=>nO _ T⟩
theorem zY(i:¬x.aH<=kn+1):gt 117 #[bR F,I g,.agg #[o.ai,o.ch,o.n,o.v,(nb,o.cases.length,cc),o.dG]] w (ee λw'=>∃m',AB af F m0 w0 m' w' (S1.ay g {x with k:=kn+1}) L):=by
 rcases RY with⟨RY,rfl⟩|⟨RY,rfl⟩
 all_goals
  have Q:=bM1;have T:k<x.bA.length:=um hs;have U:k<o.cases.length:=um hc;have R:=X0.bj;have c3:=R.eu;obtain⟨W,Y,Z,aZ⟩:=R.pB;obtain⟨n,hn⟩:=bS1;rw[<-hn]at i;have hb:decide ((n:Int)<=(kn:Int)+1)=false:=ci8
  have hh:dU x=(k:Int):=cl7
  have y:=bS6;have eE:S1.gs[g]?=x:=by obtain⟨q,b,_,rfl⟩:=qk h1;exact hx
  obtain⟨cs,j,cv⟩:=c;simp only at RY bO h1;subst RY;obtain⟨f,jc,z,A,B,C⟩:=bX6;have KK:=ag fP;have HM:=bW9;obtain⟨HC,D⟩:=dA hc hs;clear X0 R hx eE h1 hn jA hh hi hs i fD fP hc;unfold bR;go_enter func117,ntmps117;go_wp2_with (first|(go_at_call 170;refine(vr y.out.aI f C).mono ?_;rintro e wN ⟨rfl,X⟩;have RN:=bP5;have l3:=bU0;have l4:=bS4;have d8:=RN.dR;have E:=RN.g f 22 _ ii;obtain⟨sb,G,l,T0⟩:=RN.ti f D;rw[l]at E;obtain⟨n0,n1,n2⟩:=bX1;have Vb:=bX2;obtain⟨q0,q1,q2,q3,q4,q5⟩:=bR6;have H:=bP7;clear X RN G l)|(go_at_call 176;refine(kh j bO).mono ?_;rintro e J ⟨rfl,rfl⟩)|(go_at_call 177;refine(aH9 j bO).mono ?_;rintro e J ⟨rfl,rfl⟩));refine WP 12 kX kX ?_;change wpStill _ _ (World.drew _) (λa=>wpList _ _ _ _ a (World.drew _)) _ _;simp only[sS,aW1,sU,rC];repeat still_step
  refine aj0 ?_;go_wp2_with (go_at_call 103;refine(zy H.out.aI z).mono ?_;rintro e wM ⟨⟨bb,rfl⟩,X⟩;have RN:=bP5;have K:=RN.g jc 20 _ ii;obtain⟨oa,oc,t⟩:=bX7;rw[t,<-A.out]at K;have M:=RN.g jc 24 _ ii;rw[B.out]at M;have AL:=bR9;have t2:=RN.dM;have Z5:=bV3;have N:=RN.g jc 11 _ ii;have t3:=bW0;have t4:=t3.symm;have HZ:=bP7;clear X RN t);go_quiet (fail);have u:=bX9;have HC:=ag u;clear u;go_wp2;go_end0;exact⟨ii,m,(AB.QL HC _).less λp O=>nO _ O⟩
end
theorem qp{S:Wd}:(S.ay b e).gs.length=S.gs:=cs4
section
variable(R:bz af F w m S)(aG:Good S)(g:Nat)(x:bI)(hx:S.gs[g]?=x)(kn k:Nat)(jA:x.k=kn)(Jw:(kn:Int)<=1000000000)(hi:x.aH[kn]?=(k:Int))
include R aG g x hx kn k jA Jw hi
theorem QN(d:x.bA[k]?=some (-1))(S':Wd)(l:(x.aH<=kn+1/\S'=(S.ay g {x with k:=0,bA:=[],ae:=aP8 x}))\/(¬x.aH<=kn+1/\S'=(S.ay g {x with bA:=x.bA.set k (-1),k:=kn+1}))):gt 122 #[bR F,I g] w (ee (To af F m w S')):=by
 have eM:=bM1;have Y:k<x.bA.length:=um d;have Z:g<S.Eg.aC.length:=cq5
 have lP:=ag aG.Eg;have c3:=R.eu;have Fq:=R.tf;obtain⟨aU,Gu,aY,aZ⟩:=R.pB;obtain⟨n,f⟩:=bS1;rw[<-f]at l;rcases l with⟨i,rfl⟩|⟨i,rfl⟩
 all_goals
  first|have y:decide ((n:Int)<=(kn:Int)+1)=true:=by simp;omega|have y:decide ((n:Int)<=(kn:Int)+1)=false:=ci8
  have z:=ag i;have o:dU x=(k:Int):=cl7
  have p:=bM3;obtain⟨A,B,C,D⟩:=ia f jA o d;have a:=bL7;have E:=R.g a 20 _ ii;obtain⟨oa,oc,s⟩:=R.shape (r:=.aH g) (n:=x.aH.length) (by simp[aj,a.out]);rw[s,<-A.out]at E;have G:=R.g a 24 _ ii;rw[B.out]at G;have AL:=R.frozen R.aB.gs (g*25+24);have p2:=R.g a 2 _ ii;have wW:=R.frozen R.aB.gs (g*25+2);have H:=R.g a 22 _ ii;have Z4:=R.frozen R.aB.gs (g*25+22);obtain⟨sb,b,t,T0⟩:=R.ti a D;rw[t]at H;have J:=R.frozen b k;have NB:=R.lt b;have K:=R.ne b R.aB.gs;have e2:=K.symm;have M:=R.ne b R.aB.aQ;have e4:=M.symm;have N:=R.ne b R.aB.ah;have e6:=N.symm;have O:=R.ne R.aB.ah R.aB.gs;have e8:=O.symm;have Q:=R.ne R.aB.aQ R.aB.gs;have Lj:=Q.symm;have j:=R.ne R.aB.ah R.aB.aQ;have T:=j.symm;have U:=ag b;clear b t s;clear R hx f jA o hi d i aG;unfold bR;go_enter func122,ntmps122;go_wp2_with (go_at_call 170;refine(bb8 p.out.aI a C).mono ?_;rintro e w1 ⟨rfl,nq,rfl⟩);have B1:=(p.out.drewN nq).yg (k:=k) a U (-1);have B2:=bY0;rw[aA]at B2;have W:=ag B2;have u:=bY1;have c:Hid ((((S.ay g {x with bA:=x.bA.set k (-1),k:=kn+1}).ay g {x with bA:=x.bA.set k (-1),k:=0}).ay g {x with bA:=[],k:=0}).gs[g]?=some {x with bA:=[],k:=0}):=jd (by rw[qp,qp];exact eM);have X:=ag (λn=>((u n).g c {x with k:=0,bA:=[],ae:=aP8 x} (q:=2) (v:=I (aP8 x))).eq (S':=(S).ay g {x with k:=0,bA:=[],ae:=aP8 x}) (by rw[aA,aA,aA]));clear B1 B2;go_quiet (fail);go_wp2_with (go_at_call 179;refine(Dz (S:=((S.ay g {x with bA:=x.bA.set k (-1),k:=kn+1}).ay g {x with bA:=x.bA.set k (-1),k:=0}).ay g {x with bA:=[],k:=0}) (u _) c).mono ?_;rintro e w2 ⟨rfl,rfl⟩);go_end0;first|(have:=(show n<=kn+1 from z);exact⟨ii,_,X _⟩)|exact⟨ii,_,W.out.drewN _⟩
theorem QO(j:Nat)(u:fE)(i:S.ah[j]?=u)(l:x.bA[k]?=(j:Int))(S':Wd)(y:(x.aH<=kn+1/\S'=((({S with Eg:=(S.Eg.nh g j).1}:Wd).cJ j {}).ay g {x with k:=0,bA:=[],ae:=aP8 x}))\/(¬x.aH<=kn+1/\S'=((({S with Eg:=(S.Eg.nh g j).1}:Wd).cJ j {}).ay g {x with bA:=x.bA.set k (-1),k:=kn+1}))):gt 122 #[bR F,I g] w (ee (To af F m w S')):=by
 have eM:=bM1;have vA:k<x.bA.length:=um l;have H:g<S.Eg.aC.length:=cq5
 have J:=ag aG.Eg;have c3:=R.eu;have K:=R.tf;obtain⟨aU,Gu,aY,aZ⟩:=R.pB;obtain⟨n,o⟩:=bS1;rw[<-o]at y;rcases y with⟨p,rfl⟩|⟨p,rfl⟩
 all_goals
  first|have M:decide ((n:Int)<=(kn:Int)+1)=true:=by simp;omega|have M:decide ((n:Int)<=(kn:Int)+1)=false:=ci8
  have N:=ag p;have z:dU x=(k:Int):=cl7
  have A:=bM3;obtain⟨O,Q,T,U⟩:=ia o jA z l;have W:=bL7;obtain⟨X,mB,c,B⟩:=R.ti hx l;have d:=R.g hx 22 _ ii;rw[c]at d;have C:=R.lt mB;have vy:j<S.ah.length:=um i;have Ni:((j:Int) != -1)=true:=by first|(simp;done)|(simp;omega)
  have qH:=ag i;have a:Hid (({S with Eg:=(S.Eg.nh g j).1}:Wd).gs[g]?=x):=hx;have b:Hid (({S with Eg:=(S.Eg.nh g j).1}:Wd).ah[j]?=u):=i;clear R hx o jA z hi l p aG i mB c;unfold bR;go_enter func122,ntmps122;go_wp2_with (first|(go_at_call 170;refine(bb8 A.out.aI W T).mono ?_;rintro e w1 ⟨rfl,nq,rfl⟩)|(go_at_call 158;refine(Fk A.out.aI J (g:=g) j H).mono ?_;rintro e wN ⟨⟨bb,rfl⟩,mN,A1⟩;have RN:=bR3;clear d B C c3 K;have l3:=bU0;have l4:=bS4;have l5:=RN.lt RN.aB.ah;have d3:=RN.eu;have d9:=RN.ax7;have Y:=RN.g a 20 _ ii;obtain⟨oa,oc,D⟩:=RN.shape (r:=.aH g) (n:=x.aH.length) (by simp[aj,a.out]);rw[D,<-O.out]at Y;have Z:=RN.g a 24 _ ii;rw[Q.out]at Z;have AL:=bR9;have p2:=RN.g a 2 _ ii;have wW:=bR8;have Es:=RN.g a 22 _ ii;have Z4:=RN.frozen RN.aB.gs (g*25+22);obtain⟨X,mB,c,B⟩:=RN.ti a U;rw[c]at Es;obtain⟨a0,e1,e7,t,e3,e5,C⟩:=bJ7;have e2:=e1.symm;have e4:=e3.symm;have e6:=e5.symm;have e8:=e7.symm;have e9:=bW0;have Lj:=e9.symm;have a1:=t.symm;have Bm:=ag mB;clear mB c D;have s0:=RN.s0 b;obtain⟨a2,a3,a4,a5,a6,a7,a8⟩:=bJ8;have s1:=RN.s b 1 _ ii;have s2:=RN.s b 2 _ ii;have s3:=RN.s b 3 _ ii;have s4:=RN.s b 4 _ ii;have s5:=RN.s b 5 _ ii;have s6:=RN.s b 6 _ ii;have HP:=bO7;clear A1 RN));have E:=HP.out.bz0 b {};have B1:=E.yg (k:=k) a Bm (-1);clear E;have B2:=bY0;rw[aA]at B2;have BK:=ag B2;have G:=bY1;have f:Hid (((((({S with Eg:=(S.Eg.nh g j).1}:Wd).cJ j {}).ay g {x with bA:=x.bA.set k (-1),k:=kn+1}).ay g {x with bA:=x.bA.set k (-1),k:=0}).ay g {x with bA:=[],k:=0}).gs[g]?=some {x with bA:=[],k:=0}):=jd (by rw[qp,qp];exact eM);have tK:=ag (λn=>((G n).g f {x with k:=0,bA:=[],ae:=aP8 x} (q:=2) (v:=I (aP8 x))).eq (S':=((({S with Eg:=(S.Eg.nh g j).1}:Wd).cJ j {})).ay g {x with k:=0,bA:=[],ae:=aP8 x}) (by rw[aA,aA,aA]));clear B1 B2;go_quiet (fail);go_wp2_with (go_at_call 179;refine(Dz (S:=(((({S with Eg:=(S.Eg.nh g j).1}:Wd).cJ j {}).ay g {x with bA:=x.bA.set k (-1),k:=kn+1}).ay g {x with bA:=x.bA.set k (-1),k:=0}).ay g {x with bA:=[],k:=0}) (G _) f).mono ?_;rintro e w2 ⟨rfl,rfl⟩);go_end0;first|(have:=(show n<=kn+1 from N);exact⟨ii,_,tK _⟩)|exact⟨ii,_,BK.out.drewN _⟩