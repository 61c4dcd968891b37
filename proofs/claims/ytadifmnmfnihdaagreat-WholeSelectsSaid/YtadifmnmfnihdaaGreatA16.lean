import Derived.Test.YtadifmnmfnihdaaGreatA04
set_option linter.all false
set_option maxRecDepth 100000
set_option maxHeartbeats 40000000
namespace Go.Proofs.YtadifmnmfnihdaaGreat
open Go.RowKit Mach Go.Proofs.Tryz
def kj(has:Bool)(n most:Int):Bool:=if has then decide (0≤n)&&decide (n≤most)else decide (n=0)
theorem nD(has:Bool)(n most:Int)(w:World):Calls prog 194 #[B has,I n,I most] w (eL (.bool (kj has n most)) fun w'=>w=w'):=by
 go_enter func194,ntmps194
 cases has;all_goals go_wp2
 all_goals
  go_ret;refine⟨?_,rfl⟩;unfold kj;simp_all;try first|rfl|omega
theorem IU(k:Int)(w:World):Calls prog 195 #[I k] w (eL (.bool (il k)) fun w'=>w=w'):=by
 go_enter func195,ntmps195;go_wp2
 all_goals
  go_ret;refine⟨?_,rfl⟩;unfold il;simp_all;try omega
theorem Mj(k:Int)(w:World):Calls prog 196 #[I k] w (eL (.bool (kD k)) fun w'=>w=w'):=by
 go_enter func196,ntmps196;go_wp2
 all_goals
  go_ret;refine⟨?_,rfl⟩;unfold kD;by_cases h2:k=2<;>by_cases h4:k=4<;>simp_all
structure IV(o:cu):Prop where
 k:1≤o.ai∧o.ai≤9
 ch:kj (il o.ai) o.ch 8=true
 v:kj (kD o.ai) o.v 255=true
 n:kj (o.ai==1) o.n 4=true
 plain:o.ai≠9→o.cases.length=0∧o.dG=false
 cl:o.cases.length≤6
 cs:∀c∈o.cases,kj true c.ch 8=true∧kj c.cF c.v 255=true
theorem WE{o:cu}(h:yF o=true):IV o:=by
 unfold yF at h;simp only[qs,Bool.or_eq_true,decide_eq_true_eq,Bool.not_eq_true',List.all_eq_true]at h;obtain⟨⟨⟨⟨⟨⟨⟨⟨⟨⟨⟨⟨⟨h1,h2⟩,h3⟩,h4⟩,h5⟩,h6⟩,h7⟩,h8⟩,h9⟩,ph⟩,rA⟩,uQ⟩,uu⟩,Dp⟩:=h;refine⟨⟨h1,h2⟩,?_,?_,?_,fun hk=>?_,h9,fun c hc=>?_⟩
 ·unfold kj;split
  ·simp;omega
  ·rcases ph with h|h
   ·rename_i hh;exact aX h hh
   ·simp[h]
 ·unfold kj;split
  ·simp;omega
  ·rcases rA with h|h
   ·rename_i hh;exact aX h hh
   ·simp[h]
 ·unfold kj;split
  ·simp;omega
  ·rcases uQ with h|h
   ·rename_i hh;exact aX (by simp[h]) hh
   ·simp[h]
 ·rcases uu with h|⟨h,h'⟩
  ·exact aX h hk
  ·exact⟨h',h⟩
 ·have:=Dp c hc;unfold qg at this;simp only[qs,Bool.or_eq_true,decide_eq_true_eq]at this;obtain⟨⟨⟨⟨a1,a2⟩,a3⟩,a4⟩,a5⟩:=this;refine⟨by unfold kj;simp;omega,?_⟩;unfold kj;split
  ·simp;omega
  ·rcases a5 with h|h
   ·rename_i hh;exact aX h hh
   ·simp[h]
theorem Ba(o:cu)(h:IV o)(x:Option Addr)(cx:Nat)(w:World)(hc:gW w x o.cases):Calls prog 135 #[.agg #[I o.ai,I o.ch,I o.n,I o.v,.slice x o.cases.length cx,B o.dG]] w (oV (Below w.heap.size w)):=by
 obtain⟨ai,ch,n,v,rU,dG⟩:=o;obtain⟨hk,bO,hv,hn,kM,gm,fa⟩:=h;simp only at hk bO hv hn kM gm fa hc ⊢;have WG:Hid (∀w1,Calls prog 194 #[B (il ai),I ch,I 8] w1 fun e w'=>e=.returned (.bool true)∧w1=w'):=fun w1=>by rw[←bO];exact nD _ _ _ w1
 have HV:Hid (∀w1,Calls prog 194 #[B (kD ai),I v,I 255] w1 fun e w'=>e=.returned (.bool true)∧w1=w'):=fun w1=>by rw[←hv];exact nD _ _ _ w1
 have HN:Hid (∀w1,Calls prog 194 #[B (ai==1),I n,I 4] w1 fun e w'=>e=.returned (.bool true)∧w1=w'):=fun w1=>by rw[←hn];exact nD _ _ _ w1
 have aa1:Hid (∀w1,Calls prog 195 #[I ai] w1 fun e w'=>e=.returned (.bool (il ai))∧w1=w'):=fun w1=>IU ai w1
 have aa2:Hid (∀w1,Calls prog 196 #[I ai] w1 fun e w'=>e=.returned (.bool (kD ai))∧w1=w'):=fun w1=>Mj ai w1
 have XP:=ag hc;have BJ:=ag fa;obtain⟨m,hm⟩:=dC (rU.length);rw[←hm]at gm ⊢;have aa3:ai≠9→m=0∧dG=false:=by rw[hm];exact kM
 have HPL:=ag aa3;have HM:=ag hm;have jg:=hk.1;have jO:=hk.2;clear hk bO hv hn kM fa hc hm aa3;obtain⟨w1,jk⟩:=dC (w.alloc (.cells #[I ai,I ch,I n,I v,.slice x m cx,B dG] 49));obtain⟨b,hb⟩:=dC (w.heap.size);have tl:w1.heap[b]?=some (.cells #[I ai,I ch,I n,I v,.slice x m cx,B dG] 49 (0,0)):=by rw[jk,hb];exact dP _ _
 have CM:Hid (Below w.heap.size w w1):=by rw[jk];exact(fp _ _).alloc cG _
 have x0:w1.cell? ⟨b,0,none⟩=some (I ai):=by rw[cr _ _ _ _ _ _ tl];rfl
 have x1:w1.cell? ⟨b,1,none⟩=some (I ch):=by rw[cr _ _ _ _ _ _ tl];rfl
 have x2:w1.cell? ⟨b,2,none⟩=some (I n):=by rw[cr _ _ _ _ _ _ tl];rfl
 have x3:w1.cell? ⟨b,3,none⟩=some (I v):=by rw[cr _ _ _ _ _ _ tl];rfl
 have x4:w1.cell? ⟨b,4,none⟩=some (.slice x m cx):=by rw[cr _ _ _ _ _ _ tl];rfl
 have x5:w1.cell? ⟨b,5,none⟩=some (B dG):=by rw[cr _ _ _ _ _ _ tl];rfl
 obtain⟨HW,IX⟩:=dA jk hb;clear jk hb tl;go_enter func135,ntmps135;go_upto_region 1 with fail
 rw[←HW.out,←IX.out];go_upto_region 4 with fail
 go_region_held3 (fun W=>W.cell? ⟨b,0,none⟩=some (I ai)∧W.cell? ⟨b,1,none⟩=some (I ch)∧W.cell? ⟨b,3,none⟩=some (I v)) (first|exact⟨x0,x1,x3⟩|go_keep)
  (first
   |(go_at_call 195;refine(aa1.out _).mono ?_;rintro e w2 ⟨rfl,rfl⟩)
   |(go_at_call 196;refine(aa2.out _).mono ?_;rintro e w2 ⟨rfl,rfl⟩)
   |(go_at_call 194;(first|with_reducible refine(WG.out _).mono ?_|with_reducible refine(HV.out _).mono ?_);rintro e w2 ⟨rfl,rfl⟩))
 have mq:Hid (Below w.heap.size w w1.drew):=CM.out.drew;obtain⟨w3,xY⟩:=dC (w1.drew);rw[←xY]at mq ⊢;have y0:w3.cell? ⟨b,0,none⟩=some (I ai):=by rw[xY];exact x0
 have y2:w3.cell? ⟨b,2,none⟩=some (I n):=by rw[xY];exact x2
 have y4:w3.cell? ⟨b,4,none⟩=some (.slice x m cx):=by rw[xY];exact x4
 have y5:w3.cell? ⟨b,5,none⟩=some (B dG):=by rw[xY];exact x5
 clear x0 x1 x2 x3 x4 x5 xY WG HV aa1 aa2 HW IX CM;by_cases oz:ai=9
 ·subst oz;go_upto_region 12 with(go_at_call 194;refine(HN.out _).mono ?_;rintro e w2 ⟨rfl,rfl⟩)
  go_wp2;go_loopw [59] (fun i wr=>∃j:Nat,i=.int .i64 j∧j≤m∧Hid (Below w.heap.size w wr)) (fun i _=>m-(intOf i).toNat)
  case atStart=>exact⟨0,rfl,by omega,mq⟩
  case round=>
   clear mq y0 y2 y4 y5 HN HPL jg jO;obtain⟨j,rfl,hj,HB⟩:=hrel;by_cases dD:j<m
   ·obtain⟨c,hc⟩:∃c,rU[j]?=some c:=⟨_,fv (by rw[←HM.out];exact dD)⟩;obtain⟨b2,o2,rfl,e0,e1,e2,_⟩:=(XP.out.below HB.out cG).2 j c hc;obtain⟨q1,q2⟩:=BJ.out c (lf hc);obtain⟨cs,cch,cv⟩:=c;simp only at e0 e1 e2 q1 q2;have Zf:Hid (∀w1,Calls prog 194 #[B true,I cch,I 8] w1 fun e w'=>e=.returned (.bool true)∧w1=w'):=fun w1=>(nD true cch 8 w1).mono (by rintro e w' ⟨he,hw⟩;exact⟨by rw[he,q1],hw⟩)
    have VD:Hid (∀w1,Calls prog 194 #[B cs,I cv,I 255] w1 fun e w'=>e=.returned (.bool true)∧w1=w'):=fun w1=>(nD cs cv 255 w1).mono (by rintro e w' ⟨he,hw⟩;exact⟨by rw[he,q2],hw⟩)
    have hs:=HB.out.size;have tK:Hid (Below w.heap.size w (wr.alloc (.cells #[B cs,I cch,I cv] 52))):=HB.out.alloc hs _;clear q1 q2 hc;go_wp2_with (go_at_call 194;(first|with_reducible refine(Zf.out _).mono ?_|with_reducible refine(VD.out _).mono ?_);rintro e w2 ⟨rfl,rfl⟩);go_roundw
    case rel=>exact⟨j+1,by go_num,by omega,tK⟩
    case measure=>simp[intOf];omega
   ·obtain rfl:j=m:=by omega
    go_wp2;go_ret;exact⟨rfl,HB.out⟩
 ·obtain⟨rfl,rfl⟩:=HPL.out oz;go_wp2_with (go_at_call 194;refine(HN.out _).mono ?_;rintro e w2 ⟨rfl,rfl⟩);go_ret;exact⟨rfl,mq.out⟩
theorem sq(k:Int)(w:World):Calls prog 75 #[I k] w (eL (.bool (il k)) fun w'=>w=w'):=by
 unfold il;by_cases h1:2≤k
 ·have e1:decide (2≤k)=true:=by simpa using h1
  go_enter func75,ntmps75;go_wp2;go_ret;exact⟨by simp[h1],rfl⟩
 ·have e1:decide (2≤k)=false:=by simpa using h1
  go_enter func75,ntmps75;go_wp2;go_ret;exact⟨by simp[h1],rfl⟩
theorem uc(k:Int)(w:World):Calls prog 76 #[I k] w (eL (.bool (kD k)) fun w'=>w=w'):=by
 unfold kD;by_cases h1:k=2
 ·subst h1;go_enter func76,ntmps76;go_wp2;go_ret;exact⟨by simp,rfl⟩
 ·have e1:(k==2)=false:=by simpa using h1
  go_enter func76,ntmps76;go_wp2;go_ret;refine⟨?_,rfl⟩;by_cases h2:k=4<;>simp[h1,h2]
def mI(o:cu):Bool:=decide (1≤o.ai)&&decide (o.ai≤9)&&decide (0≤o.ch)&&decide (o.ch≤8)&&decide (0≤o.n)&&decide (o.n≤4)&&decide (0≤o.v)&&decide (o.v≤255)&&decide (o.cases.length≤6)
theorem DB(o:cu):yF o=(mI o&&(il o.ai||decide (o.ch=0))&&(kD o.ai||decide (o.v=0))&&(decide (o.ai=1)||decide (o.n=0))&&(decide (o.ai=9)||(!o.dG&&decide (o.cases.length=0)))&&o.cases.all qg):=rfl
theorem Bb(o:cu)(a:Option Addr)(c:Nat)(w:World)(n:Nat)(hn:n=o.cases.length)(hr:mI o=false):Calls prog 42 #[.agg #[I o.ai,I o.ch,I o.n,I o.v,.slice a n c,B o.dG]] w (eL (.bool (yF o)) (Below w.heap.size w)):=by
 have e:yF o=false:=by rw[DB,hr];rfl
 rw[e];have h:(((((((o.ai<1∨9<o.ai)∨o.ch<0)∨8<o.ch)∨o.n<0)∨4<o.n)∨o.v<0)∨255<o.v)∨6<(n:Int):=by unfold mI at hr;simp only[Bool.and_eq_false_iff,decide_eq_false_iff_not]at hr;omega
 clear hr hn e;go_enter func42,ntmps42;go_wp2_with fail
 all_goals first|(exfalso;omega)|(go_ret;exact⟨rfl,(fp _ _).alloc cG _⟩)
theorem Mk(o:cu)(hk:o.ai=9)(a:Option Addr)(c:Nat)(w:World)(h:gW w a o.cases)(n:Nat)(hn:n=o.cases.length)(hr:mI o=true)(hc:o.ch=0)(hv:o.v=0)(h0:o.n=0):Calls prog 42 #[.agg #[I o.ai,I o.ch,I o.n,I o.v,.slice a n c,B o.dG]] w (eL (.bool (yF o)) (Below w.heap.size w)):=by
 have e:yF o=o.cases.all qg:=by rw[DB,hr,hk,hc,hv,h0];simp
 rw[e,hk,hc,hv,h0];obtain⟨cs,fa⟩:=dC (o.cases);rw[←fa]at h hn ⊢;have hn6:n≤6:=by unfold mI at hr;simp at hr;rw[hn,fa];omega
 have hn7:decide (6<(n:Int))=false:=by simp;omega
 obtain⟨H,HN⟩:=dA h hn;clear h hn hr hk hc hv h0 e fa;go_enter func42,ntmps42;go_wp2_with (first|(go_at_call 75;refine(sq _ _).mono ?_;rintro e w1 ⟨rfl,rfl⟩)|(go_at_call 76;refine(uc _ _).mono ?_;rintro e w1 ⟨rfl,rfl⟩));go_loopw [97] (fun q wr=>∃k:Nat,q=.int .i64 k∧k≤n∧Hid ((cs.take k).all qg=true)∧Hid (Below w.heap.size w wr)) (fun q _=>n-(intOf q).toNat)
 case atStart=>exact⟨0,rfl,by omega,(by simp:(cs.take 0).all qg=true),(fp _ _).alloc cG _⟩
 case round=>
  obtain⟨k,rfl,hk,HA,HB⟩:=hrel;by_cases dD:k<n
  ·obtain⟨cc,mP⟩:∃cc,cs[k]?=some cc:=⟨_,fv (by rw[←HN.out];exact dD)⟩;obtain⟨b,off,rfl,c0,c1,c2,c3⟩:=(H.out.below HB.out cG).2 k cc mP;have hm:cc∈cs:=lf mP;have tK:Hid (Below w.heap.size w (wr.alloc (.cells #[B cc.cF,I cc.ch,I cc.v] 52))):=HB.out.alloc HB.out.size _;by_cases hg:qg cc=true
   ·have nx:Hid ((cs.take (k+1)).all qg=true):=by
     show _=_;rw[List.take_succ,mP,List.all_append,HA.out];simp[hg]
    unfold qg at hg;obtain⟨cF,ch,v⟩:=cc;simp only[qs,decide_eq_true_eq,Bool.or_eq_true]at hg c0 c1 c2;obtain⟨⟨⟨⟨g1,g2⟩,g3⟩,g4⟩,g5⟩:=hg;clear c3 mP hm HA
    cases cF
    ·have g6:v=0:=(by simpa using g5);subst g6;clear g5;go_wp2
     all_goals first
      |(exfalso;omega)
      |(go_roundw
        case rel=>exact⟨k+1,by go_num,by omega,nx,tK⟩
        case measure=>simp[intOf];omega)
    ·clear g5;go_wp2
     all_goals first
      |(exfalso;omega)
      |(go_roundw
        case rel=>exact⟨k+1,by go_num,by omega,nx,tK⟩
        case measure=>simp[intOf];omega)
   ·have HF:Hid (cs.all qg=false):=by
     show _=_;rw[List.all_eq_false];exact⟨cc,hm,hg⟩
    unfold qg at hg;obtain⟨cF,ch,v⟩:=cc;simp only[qs,decide_eq_true_eq,Bool.or_eq_true]at hg c0 c1 c2;clear c3 mP hm HA
    cases cF
    ·go_wp2
     all_goals first
      |(go_ret;exact⟨by rw[HF.out];rfl,tK.out⟩)
      |(exfalso;simp at hg;rename_i hx _;simp at hx;omega)
      |(exfalso;simp at hg;rename_i hx;simp at hx;omega)
      |skip
    ·go_wp2
     all_goals first
      |(go_ret;exact⟨by rw[HF.out];rfl,tK.out⟩)
      |(exfalso;simp at hg;omega)
      |skip
  ·obtain rfl:k=n:=by omega
   have nx:Hid (cs.all qg=true):=(by have:=HA.out;rw[HN.out,List.take_length]at this;exact this);go_wp2;go_ret;exact⟨by rw[nx.out];rfl,HB.out⟩
theorem Ml(o:cu)(hk:o.ai=1∨o.ai=2∨o.ai=3∨o.ai=4∨o.ai=5∨o.ai=6∨o.ai=7∨o.ai=8)(a:Option Addr)(c:Nat)(w:World)(n:Nat)(hn:n=o.cases.length)(hr:mI o=true):Calls prog 42 #[.agg #[I o.ai,I o.ch,I o.n,I o.v,.slice a n c,B o.dG]] w (eL (.bool (yF o)) (Below w.heap.size w)):=by
 rcases hk with hk|hk|hk|hk|hk|hk|hk|hk
 all_goals
  have e:yF o=((il o.ai||decide (o.ch=0))&&(kD o.ai||decide (o.v=0))&&(decide (o.ai=1)||decide (o.n=0))&&(!o.dG&&decide (n=0))):=by
   rw[DB,hr,hk,hn]
   cases fa:o.cases with
   |nil=>simp
   |cons x l=>simp
  rw[e,hk];have hn6:n≤6:=by unfold mI at hr;simp at hr;rw[hn];omega
  have hn7:decide (6<(n:Int))=false:=by simp;omega
  obtain⟨a1,a2,a3,a4,a5,a6,a7,a8,b1,b2,b3,b4,b5,b6,b7,b8⟩:il 1=false∧il 2=true∧il 3=true∧il 4=true∧il 5=true∧il 6=true∧il 7=true∧il 8=true∧kD 1=false∧kD 2=true∧kD 3=false∧kD 4=true∧kD 5=false∧kD 6=false∧kD 7=false∧kD 8=false:=by decide
  obtain⟨dG,FX⟩:=dC (o.dG);rw[←FX];have HR:=ag hr;have C5:0≤o.ch∧o.ch≤8∧0≤o.n∧o.n≤4∧0≤o.v∧o.v≤255:=by unfold mI at hr;simp at hr;omega
  obtain⟨ch,bO⟩:=dC (o.ch);obtain⟨nn,Ww⟩:=dC (o.n);obtain⟨v,hv⟩:=dC (o.v);rw[←bO,←Ww,←hv]at C5 ⊢;obtain⟨r1,r2,r3,r4,r5,r6⟩:=C5;clear hr hn hk e FX bO Ww hv HR;go_enter func42,ntmps42;go_wp2_with (first|(go_at_call 75;refine(sq _ _).mono ?_;rintro e w1 ⟨rfl,rfl⟩)|(go_at_call 76;refine(uc _ _).mono ?_;rintro e w1 ⟨rfl,rfl⟩))
  all_goals first
   |(exfalso;omega)
   |(go_ret;refine⟨?_,(fp _ _).alloc cG _⟩;first|(simp_all;done)|(simp_all;omega))
   |(obtain rfl:n=0:=by omega
     go_loopw [97] (fun q wr=>q=.int .i64 0∧Hid (Below w.heap.size w wr)) (fun _ _=>0)
     case atStart=>exact⟨rfl,(fp _ _).alloc cG _⟩
     case round=>
      obtain⟨rfl,HB⟩:=hrel;go_wp2;go_ret;refine⟨?_,HB.out⟩;simp_all;done)
end Go.Proofs.YtadifmnmfnihdaaGreat
