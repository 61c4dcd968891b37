import Derived.Test.YtadifmnmfnihdaaGreatA04
set_option linter.all false
set_option maxRecDepth 100000
set_option maxHeartbeats 40000000
namespace Go.Proofs.YtadifmnmfnihdaaGreat
open Go.RowKit Mach Go.Proofs.Tryz
variable{u f w' w2:World}{b n z X cp:Nat}{A:am}{O:bI}{D:Mem}{t S':Wd}{J:bi}{us c2:dl}
structure CQ(p:be):Prop where
 n:p.length<=100
 row:∀j,(p.getD j []).length<=100
 cs:∀j (k:Nat) (o:cu),(p.getD j [])[k]?=o->o.cases.length<=100
theorem Oe:(prog.info? 49).map (λi=>(i.zero,i.size,i.bytes))=some (some (.agg #[I 0,I 0,I 0,I 0,(),B false]),6,64):=kX
theorem VQ:(prog.info? 50).map (λi=>(i.zero,i.size,i.bytes))=some (some (.slice none 0 0),1,24):=kX
theorem tQ(p:be)(n:Nat)(hn:n=p)(a:am)(ca:Nat)(w:World)(A:aH1 w a p)(zU:CQ p):gt 83 #[(a,n,ca)] w λe w'=>∃g T d cap c,e=.returned (g,n,T)/\fY w w w' p n 0 d cap c/\d none=some g/\cap none=T:=by
 have El:n<=100:=by rw[hn];exact zU.n
 obtain⟨i0,hi,fV,jC,gG⟩:=AC VQ;obtain⟨i1,ki,JV,JW,JX⟩:=AC Oc;obtain⟨i2,li,a6,a7,a8⟩:=AC Oe;have sN:∀W:World,(Instr.makeSlice 22 (I 0) (I n)).run prog W=.ok (.slice (some ⟨W.heap.size,0,none⟩) 0 n) (W.alloc (.cells (madeCells (Value.slice none 0 0).cells (n*i0.size)) 50)):=λW=>av9 (P:=prog) 22 50 i0 underlying22 hi fV .i64 .i64 0 n (wn _) cl1 oX W
 rw[jC]at sN;have Hn:=ag hn;clear hn;have H1:=ag A;clear A;have HS:=ag zU;clear zU;go_enter func83,ntmps83;go_wp2
 have h0:Hid (∃d cap c,fY w w (w.alloc (.cells (madeCells #[()] n) 50)) p 0 0 d cap c/\d none=w.heap.size/\cap none=n):=by
  have O:=(cN.nil (κ:=CK) w w cG Nl).add (r:=none) (b:=w.heap.size) (cp:=n) (xs:=[]) (w':=w.alloc (.cells (madeCells #[()] n) 50)) ((fp).alloc cG _) cG
   ⟨_,_,dP,wn _,ii,λq N=>by simp[Nl]at N;subst N;exact⟨ii,by simp[aw9],cj7⟩⟩
  refine⟨_,_,_,⟨O,?_,λi h=>oX,?_,λi q o h=>oX,λi h=>aD sX,λi q h=>aD sX,λ_=>aD sX,λi q h=>aD sX⟩,ub,ub⟩
  .rw[ub];rfl
  rw[aD sX,aW1];rfl
 clear sN;go_loopw [3,14] (λout i wr=>∃j F G:Nat,i=.int .i64 j/\out=.slice F j G/\j<=n/\Hid (∃d cap c,fY w w wr p j 0 d cap c/\d none=F/\cap none=G)) (λ_ i _=>n-(intOf i).toNat)
 case atStart=>exact⟨0,w.heap.size,n,ii,ii,oX,h0⟩
 clear h0;obtain⟨j,F,G,rfl,rfl,hj,H⟩:=hrel;by_cases dD:j<n
 .have a3:Below w w wr:=by obtain⟨d,cap,c,A,_⟩:=H.out;exact A.own.below
  obtain⟨os,No⟩:∃os,p[j]?=some os:=⟨_,fv cn8⟩;obtain⟨b1,o1,r1,c1,rfl,oF,rS⟩:=H1.out.2 j os No;have oF:=cw a3 cG _ _ oF;have nX:p.getD j []=os:=by rw[c9X,No];rfl
  obtain⟨m,hm⟩:=dC (os.length);rw[<-hm]at oF;have YL:m<=100:=by rw[hm,<-nX];exact HS.out.row j
  obtain⟨HO,HM,ie⟩:=ij rS hm nX;have jf:Hid (∃d cap c,fY w w wr p j 0 d cap c/\d none=F/\cap none=G/\Value.slice none 0 0=nG (d (some (.ops j))) 0 (cap (some (.ops j)))):=by obtain⟨d,cap,c,A,U,h3⟩:=H.out;exact⟨d,cap,c,A,U,h3,by rw[A.YP rfl];rfl⟩
  clear a3 rS hm No nX H;obtain⟨wo,VB⟩:=dC (wr);subst VB;go_wp2;go_loopw [6,20] (λrow i VC=>∃(k:Nat) (J:am) (K:Nat),i=.int .i64 k/\row=(J,k,K)/\k<=m/\Hid (∃d cap c,fY w w VC p j k d cap c/\d none=F/\cap none=G/\Value.slice J k K=nG (d (some (.ops j))) k (cap (some (.ops j))))) (λ_ i _=>m-(intOf i).toNat)
  case atStart=>exact⟨0,none,0,ii,ii,oX,jf⟩
  clear jf oF;obtain⟨k,J,K,rfl,rfl,hk,HR⟩:=hrel;by_cases rT:k<m
  .obtain⟨d,cap,c,l,YZ⟩:=HR.out;obtain⟨o,ho⟩:∃o,os[k]?=some o:=⟨_,fv co8⟩;obtain⟨b2,o2,x,cx,rfl,e0,e1,e2,e3,e4,e5,fa,_⟩:=(HO.out.below l.own.below cG).2 k o ho;have Y0:o.cases.length<=100:=HS.out.cs j k o (by rw[ie.out];exact ho);obtain⟨zk,X⟩:∃z,z=o.ai:=⟨_,ii⟩;obtain⟨zc,Y⟩:∃z,z=o.ch:=⟨_,ii⟩;obtain⟨zn,Z⟩:∃z,z=o.n:=⟨_,ii⟩;obtain⟨zv,a0⟩:∃z,z=o.v:=⟨_,ii⟩;obtain⟨ze,a1⟩:∃z,z=o.dG:=⟨_,ii⟩;obtain⟨q,N⟩:=bN3;obtain⟨cs,jB⟩:=dC (bT fT 0 o.cases);rw[<-X]at e0;rw[<-Y]at e1;rw[<-Z]at e2;rw[<-a0]at e3;rw[<-N]at e4;rw[<-a1]at e5;rw[<-N]at Y0;have J9:Hid (∀ob,0<q->∃b off,x=some ⟨b,off,none⟩/\∀j u,cs[j]?=some u->(wr.alloc ob).cell? ⟨b,off+j,none⟩=some u):=λob h0=>by rw[N]at h0;obtain⟨b,off,e,h⟩:=fa.cells h0;refine⟨b,off,e,λj u hu=>?_⟩;rw[jB]at hu;rw[World.cell?_alloc_lt _ _ _ (ba0 _ _ (h j u hu))];exact h j u hu
   have HL:Hid (cs.length=q*3):=(by show _=_;rw[jB,N];exact aV9 (f:=fT) (k:=3) (λ_ _=>rfl) _ _);have XF:Hid (∀u∈cs,u.oneCell'=true):=(by rw[jB];exact vU _ _);have a4:=ag (dO X (dO Y (dO Z (dO a0 (dO a1 (dO N (dO jB ho)))))));clear l YZ fa X Y Z a0 a1 N jB ho;go_wp2_with (at_builtin;go_loud (refine gu ii _ _ 47 rfl underlying47 ki JV JW JX ii dX dX ii x q cx ii cs HL (J9 _) XF oX ?_));intro D E y EU rj;obtain⟨t,Hy⟩:=dC (wr.heap.size);have xy:y.heap[t]?=some (.cells #[I zk,I zc,I zn,I zv,.slice x q cx,B ze] 49 (0,0)):=(by rw[EU.block t (by rw[Hy];simp) sX,Hy];exact dP);have x0:y.cell? t=I zk:=ct4;have x1:y.cell? (t,1)=I zc:=ct4;have x2:y.cell? (t,2)=I zn:=ct4;have x3:y.cell? (t,3)=I zv:=ct4;have x4:y.cell? (t,4)=some (.slice x q cx):=ct4;have x5:y.cell? (t,5)=B ze:=ct4;have xf:=iM y t 4 xy;have a9:t<y:=(dh xy).1
   have Q:Below wr wr (y.setCell (t,4) (Value.slice D q E)):=
    (((ae5 wr wr).alloc cG _).grown EU sX cm0).setCell (by rw[Hy];exact rx _) _
   rw[<-Hy]at rj ⊢;obtain⟨a2,ab,LD⟩:=ij Q Hy rj;have ad:=rj;obtain⟨d,cap,c,l,a5,Sh,L⟩:=HR.out;have s:=(l.own.eC Q).owns (k:=some (.ops j)) (p:=(49,6)) ii dX (n:=k) (by rw[l.row,ie.out,aV9 (f:=J6 d cap j) (k:=6) (λ_ _=>rfl),tC];have:=fm a4.out.2.2.2.2.2.2.2;omega);rw[<-L]at s;have qq:w.heap.size<=(y.setCell (t,4) (Value.slice D q E)).heap.size:=(l.own.eC Q).tL;have nv:Hid ((y.setCell ⟨t,4,none⟩ (Value.slice D q E)).ownsRow w.heap.size 49 6 (.slice J k K) k (c (some (.ops j)))):=s;have H:=ag (show ∃d cap R,fY w.heap.size w wr p j k d cap R/\d none=some F/\cap none=G/\Value.slice J k K=nG (d (some (.ops j))) k (cap (some (.ops j)))/\c (some (.ops j))=R (some (.ops j))from⟨d,cap,c,l,a5,Sh,L,ii⟩);clear Q Hy rj ad l a5 Sh L s HR EU xy;go_wp2_with (at_builtin;go_loud (refine aY2 (us:=#[I zk,I zc,I zn,I zv,Value.slice D q E,B ze]) (w2:=y.setCell ⟨t,4,none⟩ (Value.slice D q E)) ii (.tmp 28) (.tmp 30) 50 rfl underlying50 li a6 a7 a8 ii dX dX ii ii cj0 (.slice J k K) k ii nv y.heap.size co3 ii oX qq ?_));intro g T w3 C jE lN
   have hN:Hid (∃d cap c,fY w w w3 p j (k+1) d cap c/\d none=F/\cap none=G/\Value.slice g (k+1) T=nG (d (some (.ops j))) (k+1) (cap (some (.ops j)))):=by
    obtain⟨d,cap,R,l,M,S,L,mP⟩:=H.out;obtain⟨q1,q2,q3,q4,q5,q6,q7,q8⟩:=a4.out;have jz:(Value.slice J k K).ownBlock=d (some (.ops j)):=(by rw[L,mJ]);rw[jz]at jE lN;rw[mP]at C
    have jB:Value.slice D q E=nG (D.map (·.block)) o.cases E:=by
     rcases LD.out with⟨A,U,h3⟩|⟨A,U⟩
     .subst A U h3;rfl
     subst A;rw[q6];rfl
    have fa:D.map (·.block)=none/\o.cases=[]\/∃b,D.map (·.block)=some b/\wr.heap.size<=b/\aQ0 ((y.setCell ⟨t,4,none⟩ (Value.slice D q E)).alloc (.cells #[I zk,I zc,I zn,I zv,Value.slice D q E,B ze] 49)) b none E (bT fT 0 o.cases):=by
     rcases LD.out with⟨A,U,h3⟩|⟨A,U⟩
     .grind
     subst A;refine .inr ⟨t+1,ii,by rw[ab.out];omega,?_⟩;obtain⟨_,hl⟩:=aQ0.aX1 (ty:=none) (p:=(52,3)) (λq h=>ck3) U;rw[<-q7];have A:y.heap.size=(y.setCell ⟨t,4,none⟩ (Value.slice (some ⟨t+1,0,none⟩) q E)).heap.size:=co3;grind [aQ0.other,Go.RowKit.Below.heap_setCell,Go.RowKit.Below.heap_alloc,aQ0.lt]
    obtain⟨tM,pF,c2,r1,r2,r3,r4,r5⟩:=l.op (o:=o) (hb:=D.map (·.block)) (hc:=E) (w2:=(y.setCell (t,4) (Value.slice D q E)).alloc (.cells #[I zk,I zc,I zn,I zv,Value.slice D q E,B ze] 49)) (w3:=w3) (g:=g) (cp:=T)
     (by rw[ie.out];exact q8) (a2.out.alloc (by have:=a2.out.size;omega) _) fa jE (by
      rcases lN with h|h
      .exact .inl h
      right;simpa[World.setCell]using h) (by rw[<-jB,<-q1,<-q2,<-q3,<-q4,<-q5];simpa using C)
    exact⟨tM,pF,c2,r1,r4.trans M,r5.trans S,by rw[r2,r3];rfl⟩
   clear H nv C jE lN LD a2 J9 HL XF qq x0 x1 x2 x3 x4 x5 xf a9 e0 e1 e2 e3 e4 e5;go_wp2;go_roundw
   case rel=>exact⟨k+1,_,_,cj8,ii,oX,hN⟩
   simp[intOf];omega
  obtain rfl:k=m:=oX
  obtain⟨d,cap,c,l,M,S,L⟩:=HR.out;have s:wr.ownsRow w 50 1 (.slice F j G) j (c none):=by have:=l.own.owns (k:=none) (p:=(50,1)) ii dX (n:=j) (by rw[l.out];simp);rw[M,S]at this;exact this
  have qq:=l.own.tL;have nv:=ag s;have H:=ag (show ∃d cap R,fY w w wr p j k d cap R/\d none=F/\cap none=G/\Value.slice J k K=nG (d (some (.ops j))) k (cap (some (.ops j)))/\c none=R none from⟨d,cap,c,l,M,S,L,ii⟩);clear HR l M S L s;go_wp2_with (at_builtin;go_loud (refine aY2 (us:=#[(J,k,K)]) (w2:=wr) ii (.tmp 33) (.tmp 35) 22 rfl underlying22 hi fV jC gG ii dX dX ii ii cj0 (.slice F j G) j ii nv wr ii ii oX qq ?_));intro g T w3 C jE lN
  have hN:Hid (∃d cap c,fY w w w3 p (j+1) 0 d cap c/\d none=g/\cap none=T):=by
   obtain⟨d,cap,R,l,M,S,L,mP⟩:=H.out;rw[mP,L]at C;have hk:(p.getD j []).length=k:=(by rw[ie.out];exact HM.out.symm);have y:=l;have t:fY w w (wr.alloc (.cells #[(J,k,K)] 50)) p j k d cap R:={l with own:=l.own.alloc _}
   obtain⟨tM,pF,c2,r1,r2,r3⟩:=t.next hk (by rw[M];exact jE) (by
    rcases lN with h|h
    .left;rw[M];exact h
    right;simpa using h) C
   exact⟨tM,pF,c2,r1,r2,r3⟩
  clear H nv C jE lN;go_wp2;go_roundw
  case rel=>exact⟨j+1,_,_,cj8,ii,oX,hN⟩
  simp[intOf];omega
 obtain rfl:j=n:=oX
 go_wp2;go_ret;obtain⟨d,cap,c,l,M,S⟩:=H.out;exact⟨_,_,d,cap,c,ii,l,M,S⟩
abbrev oJ:=Option Nat×Nat×List Value
structure eh(lo:Nat)(w0 w:World)(L:List (bH×oJ)):Prop where
 below:Below lo w0 w
 tL:lo<=w
 nd:(L.filterMap λe=>e.2.1).Nodup
 lies:∀e∈L,∀b,e.2.1=some b->lo<=b/\aQ0 w b (eI e.1) e.2.2.1 e.2.2.2
 none_:∀e∈L,e.2.1=none->e.2.2.2=[]
section
variable{lo:Nat}{w0 w:World}{L N:List (bH×oJ)}
theorem eh.eC(H:eh lo w0 w L)(a:Below w w w'):eh lo w0 w' L:=
 ⟨H.below.trans (a.mono H.tL),jm H.tL a.size,H.nd,λe c b h=>⟨(H.lies e c b h).1,(H.lies e c b h).2.other (a.block b (H.lies e c b h).2.lt)⟩,H.none_⟩
theorem eh.drew(H:eh lo w0 w L):eh lo w0 w.drew L:=H.eC (fp).drew
section
variable(H:eh lo w0 w L)(hb:Below w w w')
include H hb
theorem eh.ext(f:(N.filterMap λe=>e.2.1).Nodup)(c:∀e∈N,∀b,e.2.1=some b->w<=b/\aQ0 w' b (eI e.1) e.2.2.1 e.2.2.2)(p:∀e∈N,e.2.1=none->e.2.2.2=[]):eh lo w0 w' (N++L):=by
 have d:=H.eC hb;refine⟨d.below,d.tL,?_,λe a b h=>?_,λe a h=>?_⟩
 .rw[List.filterMap_append,tB];refine⟨f,H.nd,λx g y i e=>?_⟩;let⟨j,k,l⟩:=List.mem_filterMap.1 g;let⟨m,n,o⟩:=List.mem_filterMap.1 i;have:=(c j k x l).1;have:=(H.lies m n y o).2.lt;omega
 .obtain a|a:=ae4.1 a
  .exact⟨jm H.tL (c e a b h).1,(c e a b h).2⟩
  exact d.lies e a b h
 grind [none_]
theorem eh.Og(r:bH)(b cap:Nat)(a:bi)(d:w<=b)(f:aQ0 w' b (eI r) cap a):eh lo w0 w' ((r,some b,cap,a)::L):=by
 refine H.ext (N:=[(r,some b,cap,a)]) hb sX (λe c g h=>?_) (λe c h=>?_);all_goals grind
theorem eh.Sv{r c:bH}{cap:Nat}{d:bi}(f:w<=b)(g:aQ0 w' b (eI r) cap J)(i:w<=n)(j:aQ0 w' n (eI c) z d)(k:b≠n):eh lo w0 w' ((r,some b,cap,J)::(c,some n,z,d)::L):=by
 refine H.ext (N:=[(r,some b,cap,J),(c,some n,z,d)]) hb (by simp[k]) (λe a l h=>?_) (λe a h=>?_)
 .simp[ak4,aC5]at a;rcases a with rfl|rfl<;>cases h
  .exact⟨f,g⟩
  exact⟨i,j⟩
 simp[ak4,aC5]at a;rcases a with rfl|rfl<;>cases h
theorem eh.Y8(r g i:bH)(b c d cap j k:Nat)(l m a:bi)(n:w<=b)(o:aQ0 w' b (eI r) cap l)(p:w<=c)(q:aQ0 w' c (eI g) j m)(s:w<=d)(t:aQ0 w' d (eI i) k a)(u:b≠c/\b≠d/\c≠d):eh lo w0 w' ((r,some b,cap,l)::(g,some c,j,m)::(i,some d,k,a)::L):=by
 refine H.ext (N:=[(r,some b,cap,l),(g,some c,j,m),(i,some d,k,a)]) hb (by simp[u]) (λe f v h=>?_) (λe f h=>?_)
 .simp[ak4,aC5]at f;rcases f with rfl|rfl|rfl<;>cases h
  .exact⟨n,o⟩
  .exact⟨p,q⟩
  exact⟨s,t⟩
 simp[ak4,aC5]at f;rcases f with rfl|rfl|rfl<;>cases h
end
theorem eh.ai7(H:eh lo w0 w L)(r:bH):eh lo w0 w ((r,none,0,[])::L):=by
 refine H.ext (N:=[(r,none,0,[])]) (fp) sX (λe a b h=>?_) (λe a h=>?_);all_goals grind
theorem yK{L:List (bH×oJ)}{k:bH}{e:oJ}(h:L.lookup k=e):(k,e)∈L:=by
 induction L with
 |nil=>cases h
 |cons p L ih=>
  grind
theorem BL{L:List (bH×oJ)}(h:(L.filterMap λe=>e.2.1).Nodup){x y:bH×oJ}(a:x∈L)(c:y∈L)(d:x.2.1=b)(f:y.2.1=b):x=y:=by
 induction L with
 |nil=>cases a
 |cons p L ih=>
  grind
theorem eh.cell(H:eh lo w0 w L){r:bH}{b cap j:Nat}{cs:bi}(h:(r,some b,cap,cs)∈L){v:Value}(a:cs[j]?=v):w.cell? (b,j)=v:=(H.lies _ h b ii).2.cell j v a
theorem eh.own(H:eh lo w0 w L){f:bH->Option oJ}(i:∀k,f k=none\/L.lookup k=f k):cN lo w0 w (λk=>(f k).bind (·.1)) eI (λk=>((f k).map (·.2.1)).getD 0) (λk=>((f k).map (·.2.2)).getD []):=by
 have key:∀k b,(f k).bind (·.1)=some b->∃e,f k=some e/\e.1=some b/\(k,e)∈L:=λk b h=>by grind [cI,yK]
 refine⟨H.below,H.tL,λk j b l g=>?_,λk b h=>?_,λk h=>?_⟩
 .let⟨e,_,a,c⟩:=key k b l;let⟨n,_,d,m⟩:=key j b g;have:=BL H.nd c m (b:=b) a d;grind
 .let⟨e,g,a,c⟩:=key k b h;have:=H.lies _ c b a;grind
 cases d:f k with
 |none=>rfl
 |some e=>
  rw[d]at h;have:=H.none_ _ (yK (((i k).resolve_left (by rw[d];simp)).trans d)) h;grind
end
theorem fF{t:TypeId}{cap:Nat}{a:Option (Nat×Nat)}(h:u.heap[b]?=some (.cells us t (0,0)))(c:us.toList=J)(d:∀p,a=some p->t=p.1/\us.size=cap*p.2/\cap<=maxLen):aQ0 u b a cap J:=by
 have:J.length=us.size:=by rw[<-c];simp
 exact⟨us,t,h,oX,by rw[<-c];exact aj3,d⟩
def UH(b:Option Nat):am:=b.map λb=>⟨b,0,none⟩
theorem Sw{b:Option Nat}(h:b=none->n=0/\z=0):Value.slice (UH b) n z=nG b n z:=by
 cases b with
 |none=>obtain⟨rfl,rfl⟩:=h ii;rfl
 |some b=>rfl
theorem uT{P:Program}{ops:Array Oper}{o:Oper}{a:Act}{w:World}{K:Act->World->Prop}{Q:Exit->Act->World->Prop}{E:Prop}(nX:o.guard=none)(s x:Operand)(t:TypeId)(A:o.op=.call {callee:=.builtin .append,args:=#[s,x],argTypes:=#[t,t]}){e:TypeId}{i:TypeInfo}{d:Value}{size bytes:Nat}(ht:P.underlying t=some (.slice e))(hi:P.info? e=i)(hz:i.zero=d)(hsize:i.size=size)(hby:i.bytes=bytes)(hzs:d.cells.size=size)(hsz:0<size)(hbb:bytes<=200)(B:a.eval s=())(ao:am)(n c:Nat)(C:a.eval x=(ao,n,c))(cs:bi)(hl:cs=n*size)(hc:0<n->∃b off:Nat,ao=(b,off)/\∀(j:Nat) f,cs[j]?=some f->w.cell? (b,off+j)=f)(h1:∀f∈cs,f.oneCell')(hn:n<1000001){L:List (bH×oJ)}(H:eh z u w L)(r:bH)(hr:∀q,eI r=some q->q=(e,size))(h:∀l cap g,w.grownBy g none->eh z u g ((r,l,cap,cs)::L)->(l=none->n=0/\cap=0)->K (a.put o.dst (UH l,n,cap)) g):if Region.wanted o (yielded ops a.tmps)=true then Oper.wp P o a w K Q else E:=by
 rw[aF cn1];refine tN s x t A ht hi hz hsize hby hzs hsz hbb B ao n c C cs hl hc h1 hn λl cap g m v=>?_
 have y:Below w w g:=(fp).grown m cG cm0;obtain⟨rfl,rfl,rfl⟩|⟨rfl,v⟩:=v
 .have D:cs=[]:=xn ct8;subst D;refine h none 0 g m ((H.eC y).ai7 r) (λ_=>⟨ii,ii⟩)
 let⟨D,F⟩:=aQ0.aX1 (ty:=eI r) (p:=(e,size)) hr v;exact h w cap g m (H.Og y r _ cap cs D F) (nofun)
theorem xU:(prog.info? 105).map (λi=>(i.zero,i.size,i.bytes))=some (some (.agg #[B false,I 0,I 0,I 0,B false,I 0,B false]),7,56):=kX
theorem BM(a:Nat)(d:0<a)(i:a<=64){L:List (bH×oJ)}(H:eh n u f L):gt 80 #[I a] f λe c=>∃b g:Nat,e=b/\eh n u c ((.dB,some b,0,[(g,a,a)])::(.ax,some g,a,bT ry 0 (List.replicate a (0,false)))::L):=by
 refine(Az a d i f).mono ?_;rintro e c ⟨b,g,j,rfl,f1,f2,f3,f4,f5,f6,f7⟩;exact⟨b,g,ii,H.Sv f7 f4 (fF f1 ii (λp h=>cq7)) f5 (fF f2 f3 (λp h=>cq7)) f6⟩
theorem LF{L:List (bH×oJ)}(H:eh n u f L):gt 81 #[I 0] f λe a=>∃b g:Nat,e=b/\eh n u a ((.dY,some b,0,[(g,0,0)])::(.dQ,some g,0,[])::L):=by
 refine(yA f).mono ?_;rintro e a ⟨b,g,c,rfl,f1,f2,f3,f4,f5,f6,f7⟩;exact⟨b,g,ii,H.Sv f7 f4 (fF f1 ii (λp h=>cq7)) f5 (fF f2 (by simpa using f3) (λp h=>by simp[eI]at h;subst h;exact⟨ii,by simpa using f3,oX⟩)) f6⟩
theorem E0(l:ce)(d:Nat)(j:d=l)(a:am)(c:Nat){L:List (bH×oJ)}(H:eh n u f L)(h:Rd .u16 f a l)(k:d<=300):gt 82 #[(a,d,c)] f λe i=>∃b g:Nat,e=b/\eh n u i ((.gN,some b,0,[(g,d,d),I 0])::(.list,some g,d,l.map U)::L):=by
 refine(Cz l d j a c f h k).mono ?_;rintro e i ⟨b,g,rfl,f1,f2,f4,f5,f6,f7⟩;exact⟨b,g,ii,H.Sv f7 f4 (fF f1 ii (λp h=>cq7)) f5 (fF f2 ii (λp h=>cq7)) f6⟩
theorem E1(N a most:Nat)(c:a<=8)(d:N<=64)(i:nK N a most){L:List (bH×oJ)}(H:eh n u f L):gt 78 #[I N,I a,I most] f λe w'=>∃b g q:Nat,e=Value.tuple #[b,I 0]/\eh n u w' ((.Eg,some b,0,[I N,I most,(g,a,a),(),I 0,(q,N,N)])::(.aC,some g,a,List.replicate a ())::(.bV,some q,N,(List.replicate N false).map B)::L):=by
 refine(CA N a most c d i f).mono ?_;exact cb4
theorem BN(N:Nat)(a:N<=64){L:List (bH×oJ)}(H:eh n u f L):gt 79 #[I N,I 16] f λe w'=>∃b g q:Nat,e=Value.tuple #[b,I 0]/\eh n u w' ((.ef,some b,0,[(g,N,N),(q,16,16)])::(.aS,some g,N,bT oD 0 (List.replicate N {}))::(.bM,some q,16,bT rG 0 (List.replicate 16 {}))::L):=by
 refine(AD N a f).mono ?_;exact cb4
theorem EM{P:Program}{o:Oper}{a:Act}{K:Act->World->Prop}{Q:Exit->Act->World->Prop}(s x:Operand)(t:TypeId)(ho:o.op=.call {callee:=.builtin .append,args:=#[s,x],argTypes:=#[t,t]}){af:Nat}{e:TypeId}{i:TypeInfo}{z:Value}{size bytes:Nat}(ht:P.underlying t=some (.slice e))(hi:P.info? e=i)(hz:i.zero=z)(hsize:i.size=size)(hby:i.bytes=bytes)(hzs:z.cells.size=size)(hsz:0<size)(hbb:bytes<=1000){W3:World}(hW:W3.heap=(w2.alloc (us,e)).heap)(hus:us.size=size)(h1:∀u∈us.toList,u.oneCell')(v:Value)(n:Nat)(xs:bi)(hs:a.eval s=v)(hown:w2.ownsRow af e size v n xs)(hx:a.eval x=(w2.heap.size,1,1))(c:n<1000001)(b:af<=w2)(h:∀(g:Nat) cap w',w'.ownsRow af e size (g,n+1,cap) (n+1) (xs++us.toList)->W3.grownBy w' v.ownBlock->(v.ownBlock=g\/W3<=g)->K (a.put o.dst (.slice g (n+1) cap)) w'):o.wp P a W3 K Q:=by
 exact ca4
theorem gY{P:Program}{j:Array Oper}{rest:List Oper}{o:Oper}{a:Act}{Q:Exit->Act->World->Prop}(A:o.guard=none)(s x:Operand)(t:TypeId)(B:o.op=.call {callee:=.builtin .append,args:=#[s,x],argTypes:=#[t,t]}){e:TypeId}{i:TypeInfo}{z:Value}{size bytes:Nat}(C:P.underlying t=some (.slice e))(D:P.info? e=i)(E:i.zero=z)(d:i.size=size)(m:i.bytes=bytes)(p:z.cells.size=size)(r:0<size)(w:bytes<=1000)(F:u.heap=(w2.alloc (us,e)).heap)(y:us.size=size)(G:∀c∈us.toList,c.oneCell')(v:Value)(n:Nat)(H:a.eval s=v)(k:w2.ownsRow b e size v n J)(q:Nat)(I:q=w2)(K:a.eval x=(q,1,1))(L:n<1000001)(f:b<=w2)(h:∀(g:Nat) cap l,l.ownsRow b e size (g,n+1,cap) (n+1) (J++us.toList)->u.grownBy l v.ownBlock->(v.ownBlock=g\/u<=g)->wpList P j Q rest (a.put o.dst (.slice g (n+1) cap)) l):wpList P j Q (o::rest) a u:=by
 subst I;exact ae2 A λ_ M=>EM s x t B C D E d m p r w F y G v n J H k K L f λg cap l N O R=>M _ _ (h g cap l N O R)
theorem uS:(prog.info? 100).map (λi=>(i.zero,i.size,i.bytes))=some (some (.agg #[(),I 0,I 0,I 0,B false,I 0,B false,I 0,I 0,I 0,I 0,I 0,I 0,I 0,I 0,I 0,I 0,I 0,B false,I 0,(),(),(),(),I 0]),25,280):=kX
def aW0(h:Value):bi:=[h,I 0,I 0,I 0,B false,I 0,B false,I (-1),I (-1),I (-1),I 0,I 0,I 0,I (-1),I (-1),I 0,I (-1),I 0,B false,I 0,(),(),(),(),I 0]
def AG(h:Value):bi:=[h,I 0,I 0,I 0,B false,I 0,B false,I 0,I 0,I 0,I 0,I 0,I 0,I 0,I 0,I 0,I 0,I 0,B false,I 0,(),(),(),(),I 0]
theorem Lt(k b g n c:Nat)(a:am)(l i:Nat)(w:World)(D:g<n)(E:n<=100)(c3:w.cell? (k,3)=some (.slice b n c))(d:∀(j:Nat) v,(AG (a,l,i))[j]?=some v->w.cell? (b,g*25+j)=v)(r:∀(j:Nat),w.frozen? (b,j)=false):gt 84 #[k,I g] w (ee λs=>s=w.drew.setCells b (g*25) (aW0 (a,l,i))):=by
 have m:=d 0 _ ii;have t:=d 1 _ ii;have u:=d 2 _ ii;have x:=d 3 _ ii;have y:=d 4 _ ii;rw[bH0]at m;have o:Hid (∀j,j<25->(w.cell? ⟨b,g*25+j,none⟩).isSome=true):=λj e=>by let⟨v,z⟩:∃v,(AG (a,l,i))[j]?=some v:=⟨_,fv (by simpa[AG]using e)⟩;rw[d j v z];rfl
 have p:Hid (∀j,w.frozen? ⟨b,j,none⟩=false):=r;let⟨q,A⟩:=dC (w.drew);have f:=ag A;go_enter func84,ntmps84;go_wp2;go_still_tail 24,kX;change wpList _ _ _ _ _ w.drew;rw[<-f.out];have B:Hid (∀j,j<25->(q.cell? ⟨b,g*25+j,none⟩).isSome=true):=by rw[f.out];exact o
 have C:Hid (∀j,q.frozen? ⟨b,j,none⟩=false):=by rw[f.out];exact p
 clear o p m t u x y c3;refine JS ii 100 (.tmp 34) (.tmp 33) ii b (g*25) _ ii ii kX (λj e=>B j e) (λj e=>C _) cj0 ?_;go_wp2;go_end0;refine⟨ii,?_⟩;rw[<-f.out];rfl
theorem bt2(h:Value):(AG h).length=25:=rfl
theorem Lu(h:Value):(aW0 h).length=25:=rfl
def fe:bi->Nat->bi->bi
 |cs,_,[]=>cs
 |cs,off,v::a=>fe (cs.set off v) (off+1) a
theorem yG:∀(new old A B:bi),old=new.length->fe (A++old++B) A new=A++new++B
 | [],old,A,B,h=>by have:old=[]:=xn h;subst this;rfl
 |v::b,[],A,B,h=>cj5
 |v::b,o::a,A,B,h=>by
  rw[fe];have e:(A++o::a++B).set A v=(A++[v])++a++B:=cp2
  rw[e,show A.length+1=(A++[v]).length by simp,yG b a (A++[v]) B ck0];simp
theorem cN.setCells{κ:Type}[DecidableEq κ]{f:Nat}{g:World}{d:κ->Option Nat}{i:κ->Option (Nat×Nat)}{cap:κ->Nat}{r:κ}{b:Nat}(l:d r=b):∀(a:bi) (off:Nat) (w:World) (c:κ->bi),cN f g w d i cap c->cN f g (w.setCells b off a) d i cap (up c r (fe (c r) off a))
 | [],off,w,c,H=>by
  have e:up c r (fe (c r) off [])=c:=by
   funext k;by_cases h:k=r
   .subst h;rw[ub];rfl
   rw[aD h]
  rw[e];exact H
 |v::a,off,w,c,H=>by
  have m:=cN.setCells l a (off+1) _ _ (H.set (r:=r) (j:=off) (v:=v) l)
  have e:up (up c r ((c r).set off v)) r (fe (up c r ((c r).set off v) r) (off+1) a)=up c r (fe (c r) off (v::a)):=by
   funext k;by_cases h:k=r
   .subst h;rw[ub,ub,ub];rfl
   grind [aD]
  rwa[e]at m
structure rV{κ:Type}(lo:Nat)(w0 w:World)(p:be)(gs wk:κ)(H:Nat->go->Value)(wb:Nat)(Hz:κ->Option Nat)(TY:κ->Option (Nat×Nat))(Nn:κ->Nat)(C:κ->bi)(j:Nat)(ga:am)(gc:Nat)(aV:κ->Option Nat)(cap:κ->Nat)(c:κ->bi):Prop where
 own:cN lo w0 w aV TY cap c
 yf:∀k,k≠gs->aV k=Hz k/\cap k=Nn k
 Sn:∀k,k≠gs->k≠wk->c k=C k
 wk_:aV wk=wb
 wc:c wk=(C wk).set 3 (ga,j,gc)
 cU:Value.slice ga j gc=nG (aV gs) j (cap gs)
 row:c gs=bT (λi l=>aW0 (H i l)) 0 (p.take j)
section
variable{κ:Type}[DecidableEq κ]{p:be}{gs wk:κ}{H:Nat->go->Value}{Hz aV:κ->Option Nat}{TY:κ->Option (Nat×Nat)}{Nn cap:κ->Nat}{C c:κ->bi}{gc:Nat}
theorem rV.push(a:rV z u f p gs wk H X Hz TY Nn C cp A gc aV cap c)(e:wk≠gs)(y:TY gs=some (100,25)){l:go}{d:Nat}(m:f.grownBy w' (Value.slice A cp gc).ownBlock)(o:(Value.slice A cp gc).ownBlock=n\/f<=n)(g:w'.ownsRow z 100 25 (n,cp+1,d) (cp+1) (c gs++AG (H cp l))):∃h,cN z u (w'.setCell (X,3) (n,cp+1,d)) (up aV gs n) TY (up cap gs d) h/\(∀k,k≠gs->k≠wk->h k=C k)/\h wk=(C wk).set 3 (n,cp+1,d)/\h gs=bT (λi l=>aW0 (H i l)) 0 (p.take cp)++AG (H cp l)/\(∀v,((C wk).set 3 (A,cp,gc))[3]?=some v->w'.cell? (X,3)=some v)/\w'.frozen? (X,3)=false:=by
 have B:(Value.slice A cp gc).ownBlock=aV gs:=by rw[a.cU,mJ]
 rw[B]at m o;have O:=a.own.row (r:=gs) (p:=(100,25)) (by intro q s;rw[y]at s;exact(mx s).symm) m g o;refine⟨_,O.set (r:=wk) (b:=X) (j:=3) (v:=(n,cp+1,d)) (by rw[aD e];exact a.wk_),λk t x=>?_,?_,?_,λv D=>?_,?_⟩
 .rw[aD x,aD t];exact a.Sn k t x
 .rw[ub,aD e,a.wc,my]
 .rw[aD (dE e),ub,a.row]
 .exact O.cell (k:=wk) (by rw[aD e];exact a.wk_) (by rw[aD e,a.wc];exact D)
 exact O.frozen (k:=wk) (by rw[aD e];exact a.wk_) 3
theorem rV.clear{l:go}(v:p[cp]?=l)(o:wk≠gs)(D:Hz wk=X)(x:∀k,k≠gs->aV k=Hz k/\cap k=Nn k){a:Nat}{m:κ->bi}(O:cN z u f (up aV gs n) TY (up cap gs a) m)(E:∀k,k≠gs->k≠wk->m k=C k)(F:m wk=(C wk).set 3 (n,cp+1,a))(G:m gs=bT (λi l=>aW0 (H i l)) 0 (p.take cp)++AG (H cp l)):∃I J q,rV z u (f.drew.setCells n (cp*25) (aW0 (H cp l))) p gs wk H X Hz TY Nn C (cp+1) n a I J q:=by
 have:=fm v;have K:(bT (λi l=>aW0 (H i l)) 0 (p.take cp)).length=cp*25:=by rw[aV9 (k:=25) (λ_ _=>rfl),tC,ar3 oX]
 have e:fe (m gs) (cp*25) (aW0 (H cp l))=bT (λi l=>aW0 (H i l)) 0 (p.take (cp+1)):=by
  rw[G,ox v,ni];generalize N:bT (λi l=>aW0 (H i l)) 0 (p.take cp)=d at K;have L:bT (λi l=>aW0 (H i l)) (0+(p.take cp).length) [l]=aW0 (H cp l):=by rw[show 0+(p.take cp).length=cp by rw[tC];omega];exact at7 _
  rw[L];have s:(AG (H cp l)).length=(aW0 (H cp l)).length:=(bt2 _).trans (Lu _).symm;generalize AG (H cp l)=g at s;generalize aW0 (H cp l)=y at s;have:=yG y g d [] s;grind
 refine⟨_,_,_,⟨cN.setCells (r:=gs) (b:=n) (ub) (aW0 (H cp l)) (cp*25) _ _ O.drew,λk t=>?_,λk B M=>?_,?_,?_,?_,?_⟩⟩
 .rw[aD t,aD t];exact x k t
 .rw[aD B];exact E k B M
 .rw[aD o,(x wk o).1];exact D
 .rw[aD o];exact F
 .rw[ub,ub];rfl
 rw[ub];exact e
end
namespace V
theorem qO(a:ce):∀k,(kB a k).Perm ((List.range k).map λi:Nat=>(i:Int))
 |0=>by simp[kB]
 |k+1=>by
  have ih:=qO a k;have c:(kB a k).length=k:=by rw[ih.length_eq];simp
  rw[bH2,al1];refine(tF _ _ _ (by simp[c]) ?_).trans (ih.append_right _);have:=aj7 (a.getD k 0) (b:=(k:Int)+1) oX;grind
theorem Zo(a:ce)(k:Nat):(kB a k).Nodup:=by
 refine(qO a k).nodup_iff.2 (ak0.2 (List.nodup_range.imp λh e=>h oX))
theorem mX:∀(l out:ce),l.Pairwise (· <=·)->out.Pairwise (· <·)->(∀a∈out,0<a)->(∀a∈out,∀b∈l,a<=b)->(l.foldl jL out).Pairwise (· <·)/\∀v,v∈l.foldl jL out↔v∈out\/(v∈l/\0<v)
 | [],out,_,h2,_,_=>⟨h2,λv=>sX⟩
 |x::l,out,h1,h2,h3,h4=>by
  rw[List.pairwise_cons]at h1;rw[bH4];unfold jL;by_cases d:x<=0
  .rw[aF d];obtain⟨a,b⟩:=bQ2;refine⟨a,λv=>(b v).trans ?_⟩;grind
  rw[aE d];by_cases c:0<out.length/\out.getD (out.length-1) 0=x
  .rw[aF c];have:x∈out:=by grind
   obtain⟨a,b⟩:=bQ2;refine⟨a,λv=>(b v).trans ?_⟩;grind
  rw[aE c]
  have f:∀a∈out,a<x:=by
   intro a ha;have:=h4 a ha x sX;by_cases e:a=x
   .exfalso;let⟨j,g,i⟩:=al3 ha;have k:out.getD (out.length-1) 0=out[out.length-1]' oX:=(by rw[c9X,fv oX];rfl);have:out[out.length-1]' oX<=x:=h4 _ (at2 _) x sX;by_cases m:j=out.length-1
    .exact c ⟨oX,by rw[k];subst m;omega⟩
    have:=ak7.1 h2 j (out.length-1) g oX oX;omega
   omega
  let⟨a,b⟩:=mX l (out++[x]) h1.2 (by
    rw[List.pairwise_append];exact⟨h2,sX,λa ha b hb=>by simp at hb;subst hb;exact f a ha⟩) (λa ha=>by
    obtain h|h:=ae4.1 ha
    .exact h3 a h
    .simp at h;omega) (λa ha b hb=>by
    obtain h|h:=ae4.1 ha
    .grind
    simp at h;subst h;exact h1.1 b hb)
  refine⟨a,λv=>(b v).trans ?_⟩;grind
theorem DH(l:ce):(kf l).Pairwise (· <·)/\∀v,v∈kf l↔v∈l/\0<v:=by
 let⟨a,b⟩:=mX (l.foldr ji []) [] (Nr l) sX sX sX;refine⟨a,λv=>(b v).trans ?_⟩;grind [bf1]
end V
section
variable{af:Nat}{F:Fx}{w:World}{m m':Mem}{L:List (Nat×Obj)}
theorem bz.rowAt(R:bz af F w m t){r:bH}{a:ce}(d:aj m t r=a.map I){v:Int}(e:a[n]?=v):∃b:Nat,m.aV r=b/\m.cU r a=(b,a.length,m.cap r)/\w.cell? (b,n)=I v:=by
 have f:aj m t r≠[]:=by intro h;simp_all
 let⟨b,c⟩:=R.has f;refine⟨b,c,Mem.de c,R.cell c ?_⟩;rw[d,na,e];rfl
section
variable(R:bz af F w m t)(hx:t.gs[z]?=O){v:Int}
include R hx
theorem bz.Sx(a:O.aH[X]?=v):∃b:Nat,m.aV (.aH z)=b/\m.cU (.aH z) O.aH=(b,O.aH.length,m.cap (.aH z))/\w.cell? (b,X)=I v:=R.rowAt cq1 a
theorem bz.CU(a:O.aq[X]?=v):∃b:Nat,m.aV (.aq z)=b/\m.cU (.aq z) O.aq=(b,O.aq.length,m.cap (.aq z))/\w.cell? (b,X)=I v:=R.rowAt cq1 a
theorem bz.ti(a:O.bA[X]?=v):∃b:Nat,m.aV (.bA z)=b/\m.cU (.bA z) O.bA=(b,O.bA.length,m.cap (.bA z))/\w.cell? (b,X)=I v:=R.rowAt cq1 a
end
section
variable(R:bz af F w m t)(g:Nat)(x:bI)(hx:t.gs[g]?=x)
include R g x hx
theorem vX(h:Int)(e:dU x=h):gt 170 #[bR F,I g] w (eL h λw'=>∃n,w'=w.drewN n):=by
 let⟨k,f,j,a⟩:=mO e;let⟨b,l,i,o⟩:=R.Sx hx a;have:=bM1;have:=R.eu;have c:=R.g hx 20 _ ii;have d:=R.g hx 24 _ ii;rw[i]at c;rw[f]at d;unfold bR;go_enter func170,ntmps170;go_wp2_with fail
 go_quiet (fail);go_wp2;go_ret;exact⟨ii,_,ii⟩
theorem tj(p:Int):gt 175 #[bR F,I g,p] w (ee λw'=>At af F m w m w' (t.ay g (eZ x p))):=by
 have:=bM1;have:=R.eu;obtain⟨j,l⟩:=bM2;have b:=R.g hx 21 _ ii;obtain⟨e,f⟩:=bQ3;let⟨a,c,i⟩:=R.shape (r:=.aq g) (n:=x.aq.length) cq1;rw[i]at b;have d:=((At.refl R).g hx {x with k:=x.aq.length} (q:=24) (v:=I x.aq.length)).g (az hx) (eZ x p) (q:=2) (v:=I p);rw[aA]at d;unfold bR;go_enter func175,ntmps175;go_wp2_with fail
 go_region
 all_goals
  go_wp2;go_end0;exact⟨ii,(ag d).out.aI⟩
theorem LG:gt 179 #[bR F,I g] w (eL (aP8 x) λw'=>w=w'):=by
 have:=bM1;have:=R.eu;have b:=R.g hx 23 _ ii;obtain⟨a,c,e⟩:=bM0;rw[e]at b;unfold aP8;by_cases d:x.OK=[]
 .rw[aF d];rw[show x.OK.length=0 by rw[d];rfl]at b;unfold bR;go_enter func179,ntmps179;exact bZ9
 rw[aE d];have f:0<x.OK.length:=pd d;have i:decide ((0:Int)<(x.OK.length:Int))=true:=ci8
 let⟨n,j⟩:=dC (x.OK.length);rw[<-j]at b i f;unfold bR;go_enter func179,ntmps179;go_wp2;go_ret;exact⟨ii,ii⟩
end
end
theorem run_loadVar_mid{P:Program}(w:World)(b off:Nat)(c:TypeId)(a:dl)(d:TypeDesc)(k:∀(j:Nat) v,a[j]?=some v->w.cell? (b,off+j)=v)(l:P.underlying c=d)(n:(match d with| .struct _| .array _ _=>true|_=>false)=true)(g:(P.info? c).map (·.size)=a.size):(loadVar c (b,off)).run P w=.ok (.agg a) w:=by
 have h:(loadCells (b,off) a.toList.length).run P w=.ok a.toList.toArray w:=
  run_loadCells_list (P:=P) w (b,off) a.toList (λj v m=>by rw[aj9];exact k j v (by simpa using m))
 cases e:P.info? c with
 |none=>simp[e]at g
 |some i=>
  have f:(isAgg c).run P w=.ok true w:=by
   unfold isAgg;rw[Sem.run_bind,aB6 l w]
   cases d<;>simp_all
  simp[Array.length_toList,Array.toArray_toList]at h;simp[loadVar,Sem.run_bind,f,sizeOf,typeInfo,e,by simpa[e]using g,h]
section
variable{P:Program}{ops:Array Oper}{rest:List Oper}{o:Oper}{a:Act}{Q:Exit->Act->World->Prop}(nX:o.guard=none)(ty:TypeId)
include nX ty
theorem wpList_load_mid(x:Operand)(e:o.op=.load ty x)(b off:Nat)(f:a.eval x=.pointer (b,off))(c:dl)(k:∀(j:Nat) v,c[j]?=some v->u.cell? (b,off+j)=v)(l:∃d,P.underlying ty=some d/\(match d with| .struct _| .array _ _=>true|_=>false)=true)(m:(P.info? ty).map (·.size)=c.size)(h:wpList P ops Q rest (a.put o.dst (.agg c)) u):wpList P ops Q (o::rest) a u:=by
 have g:(loadVar ty (b,off)).run P u=.ok (.agg c) u:=by grind [run_loadVar_mid]
 refine ae2 nX λ_ i=>?_
 unfold Oper.wp execOp;simp[e,f,Instr.loadAt,Instr.sureAddr,ak2,g];exact i _ _ h
theorem df(x y:Operand)(c:o.op=.store ty x y)(n:Nat)(d:u=n)(b:dl)(e:a.eval x=n)(f:a.eval y=.agg b)(g:(P.info? ty).map (·.size)=b.size)(i:us.size=b.size)(j:b.all (·.oneCell'))(h:wpList P ops Q rest (a.put o.dst undef) (u.alloc (b,ty))):wpList P ops Q (o::rest) a (u.alloc (us,ty)):=by
 subst d;refine ae2 nX λ_ k=>?_
 unfold Oper.wp execOp;simp[c,e,f,Instr.storeAt,Instr.sureAddr,ak2,run_storeVar_new u ty us b g i j];exact k _ _ h
end
theorem Ia(w:World)(a b:Obj):((w.alloc a).alloc b).heap[w.heap.size]?=a:=by
 rw[gf (w.alloc a) b w sX];exact ag7 w a
section
variable{af:Nat}{F:Fx}{w:World}{m m':Mem}{S:Wd}{L:List (Nat×Obj)}
def YS(x:Ex):Value:=.agg #[x.g,x.op,x.call,x.bJ,x.lQ,x.bF,x.fire,x.re,x.res.aJ,x.res.case,x.res.v,x.res.ok,x.res.n]
theorem Lx(R:bz af F w m S)(g:Nat)(x:bI)(hx:S.gs[g]?=x)(e:Int):gt 144 #[bR F,I g,e] w (eL (YS (qu x g e)) λw'=>At af F m w m w' S):=by
 have:=bM1;have:=R.eu;let⟨M,z,N,O⟩:=R.pB;let⟨a,b⟩:∃a:dl,a=#[m.cU (.ops g) x.ops.length,I x.at_,I x.ae,I x.bU,B x.token,I x.call,B x.aR,I x.aN,I x.bY,I x.br,I x.t,I x.bJ,I x.lQ,I x.bF,I x.fire,I x.res.aJ,I x.res.case,I x.res.v,B x.res.ok,I x.res.n,m.cU (.aH g) x.aH.length,m.cU (.aq g) x.aq.length,m.cU (.bA g) x.bA.length,m.cU (.OK g) x.OK.length,I x.k]:=⟨_,ii⟩
 have f:Hid (a.all (·.oneCell')=true):=by
  rw[b];have h:∀r n,(m.cU r n).oneCell'=true:=λr n=>by unfold Mem.cU;cases m.aV r<;>rfl
  have A:∀n,(I n).oneCell'=true:=λ_=>rfl
  have C:∀n,(B n).oneCell'=true:=λ_=>rfl
  refine ag ?_;simp only[List.all_toArray,List.all_cons,List.all_nil,h,A,C,Bool.and_self]
 have i:Hid (∀j v,a[j]?=some v->w.cell? ⟨F.gs,g*25+j,none⟩=some v):=λj v c=>R.g hx j v (by rw[show a=(gk m g x).toArray from b]at c;simpa only[au0]using c)
 have d:Hid (a.size=25):=by rw[b];rfl
 have E:=bM3;have l:=ag b;clear R hx b;unfold bR;go_enter func144,ntmps144;go_upto_region 1 with fail
 repeat(fail_if_success (refine wpList_load_mid ii 100 (.tmp 13) ii F.gs (g*25) ii a ?_ ?_ ?_ ?_));go_step
 refine wpList_load_mid ii 100 (.tmp 13) ii F.gs (g*25) ii a ?_ cQ.1 (by rw[d.out];exact cQ.2) ?_
 .intro j v c;rw[kZ (w:=w) (gf w _ _ z)];exact i j v c
 go_step;go_step;go_step;refine df ii 100 (.tmp 7) (.tmp 14) ii (w.heap.size+1) sX a ii ii (by rw[d.out];exact cQ.2) (by rw[d.out];rfl) f ?_;rw[l.out];let⟨Q,o⟩:∃v,v=m.cU (.ops g) x.ops.length:=⟨_,ii⟩;let⟨G,p⟩:∃v,v=m.cU (.aH g) x.aH.length:=⟨_,ii⟩;let⟨H,q⟩:∃v,v=m.cU (.aq g) x.aq.length:=⟨_,ii⟩;let⟨J,s⟩:∃v,v=m.cU (.bA g) x.bA.length:=⟨_,ii⟩;let⟨K,y⟩:∃v,v=m.cU (.OK g) x.OK.length:=⟨_,ii⟩;rw[<-o,<-p,<-q,<-s,<-y];clear o p q s y i f l d;go_wp2;refine bj2 ii ii (Ia w _ _) bu5 ⟨ii,?_⟩;exact(E.out.alloc _).alloc _
section
variable(R:bz af F w m S)(aG:Good S)(g:Nat)(x:bI)(hx:S.gs[g]?=x)(ch:Int)(bO:eX ch)
include R aG g x hx ch bO
theorem Pn(a:x.ae=1)(b:iX S ch=true):gt 106 #[bR F,I g,ch] w (ee λw'=>At af F m w m w' (S.ay g {x with ae:=4})):=by
 have:=bM1;have:=R.eu;obtain⟨c,o⟩:=bM2;obtain⟨d,p⟩:=bQ4;obtain⟨f,r⟩:=bQ5;obtain⟨i,s⟩:=bQ6;obtain⟨j,t⟩:=bQ7;obtain⟨k,y⟩:=bQ8;obtain⟨l,z⟩:=bQ9;let⟨A,B,C,E⟩:=R.pB;rw[a]at c;unfold bR;go_enter func106,ntmps106;go_wp2_with (go_at_call 161;refine (ag (lW R ch bO true b)).out.mono ?_;rintro e G ⟨rfl,n,rfl⟩);refine UV (ad8 ii _ _ _) ii ⟨ii,(ag ((At.refl R).g (ag hx) {x with ae:=4} (q:=2) (v:=I 4))).out.aI⟩
theorem Po(c:x.ae=1)(d:iX S ch=false):gt 106 #[bR F,I g,ch] w (ee λw'=>At af F m w m w' (S.ay g {x with lQ:=S.av,ae:=2})):=by
 have:=bM1;have:=R.dM;have:=R.eu;obtain⟨f,r⟩:=bM2;obtain⟨i,s⟩:=bQ4;obtain⟨j,t⟩:=bQ5;obtain⟨k,y⟩:=bQ6;obtain⟨l,z⟩:=bQ7;obtain⟨o,A⟩:=bQ8;obtain⟨p,B⟩:=bQ9;let⟨C,E,G,H⟩:=R.pB;rw[c]at f;have a:=bL7;have b:=((At.refl R).g a {x with lQ:=S.av} (q:=12) (v:=I S.av)).g (az a) {x with lQ:=S.av,ae:=2} (q:=2) (v:=I 2);rw[aA]at b;unfold bR;go_enter func106,ntmps106;go_wp2_with (go_at_call 161;refine (ag (lW R ch bO false d)).out.mono ?_;rintro e J ⟨rfl,n,rfl⟩);go_end0;exact⟨ii,(ag b).out.aI⟩
theorem Pp(a:x.ae=2)(b:dK S ch):gt 106 #[bR F,I g,ch] w (ee λw'=>At af F m w m w' (S.ay g {x with ae:=3})):=by
 have:=bM1;have:=R.eu;obtain⟨f,r⟩:=bM2;obtain⟨i,s⟩:=bQ4;obtain⟨j,t⟩:=bQ5;obtain⟨k,y⟩:=bQ6;obtain⟨l,z⟩:=bQ7;obtain⟨n,A⟩:=bQ8;obtain⟨o,B⟩:=bQ9;let⟨C,E,G,H⟩:=R.pB;rw[a]at f;have c:=At.refl R;have d:=ag (qJ R aG ch bO);rw[b]at d;have A1:=c.g (ag hx) {x with ae:=3} (q:=2) (v:=I 3);have p:=bO7;clear A1;clear R aG hx a b c;unfold bR;go_enter func106,ntmps106;go_wp2_with (go_at_call 162;refine d.out.mono ?_;rintro e J ⟨rfl,rfl⟩);refine UV (ad8 ii _ _ _) ii ⟨ii,p.out.aI⟩
theorem Pq(d:x.ae=2)(f:dK S ch=false):gt 106 #[bR F,I g,ch] w (ee λw'=>At af F m w m w' (S.ay g {x with res:={x.res with aJ:=2},ae:=18})):=by
 have:=bM1;have:=R.eu;obtain⟨i,r⟩:=bM2;obtain⟨j,s⟩:=bQ4;obtain⟨k,t⟩:=bQ5;obtain⟨l,y⟩:=bQ6;obtain⟨n,z⟩:=bQ7;obtain⟨o,A⟩:=bQ8;obtain⟨p,B⟩:=bQ9;let⟨C,E,G,H⟩:=R.pB;rw[d]at i;have a:=bL7;have b:=ag (qJ R aG ch bO);rw[f]at b;have c:=((At.refl R).g a {x with res:={x.res with aJ:=2}} (q:=15) (v:=I 2)).g (az a) {x with res:={x.res with aJ:=2},ae:=18} (q:=2) (v:=I 18);rw[aA]at c;unfold bR;go_enter func106,ntmps106;go_wp2_with (go_at_call 162;refine b.out.mono ?_;rintro e J ⟨rfl,rfl⟩);go_end0;exact⟨ii,(ag c).out.aI⟩
theorem Pr(c:x.ae=3)(d:iX S ch=true):gt 106 #[bR F,I g,ch] w (ee λw'=>At af F m w m w' (S.ay g {x with lQ:=0,ae:=4})):=by
 have:=bM1;have:=R.eu;obtain⟨f,r⟩:=bM2;obtain⟨i,s⟩:=bQ4;obtain⟨j,t⟩:=bQ5;obtain⟨k,y⟩:=bQ6;obtain⟨l,z⟩:=bQ7;obtain⟨o,A⟩:=bQ8;obtain⟨p,B⟩:=bQ9;let⟨C,E,G,H⟩:=R.pB;rw[c]at f;have a:=bL7;have b:=((At.refl R).g a {x with lQ:=0} (q:=12) (v:=I 0)).g (az a) {x with lQ:=0,ae:=4} (q:=2) (v:=I 4);rw[aA]at b;unfold bR;go_enter func106,ntmps106;go_wp2_with (go_at_call 161;refine (ag (lW R ch bO true d)).out.mono ?_;rintro e J ⟨rfl,n,rfl⟩);refine UV (ad8 ii _ _ _) ii ⟨ii,(ag b).out.aI⟩
theorem Ps(d:x.ae=3)(f:iX S ch=false):gt 106 #[bR F,I g,ch] w (ee λw'=>At af F m w m w' (S.ay g {x with res:={aJ:=1,case:= -1},lQ:=S.av,ae:=18})):=by
 have:=bM1;have:=R.dM;have:=R.eu;obtain⟨i,s⟩:=bM2;obtain⟨j,t⟩:=bQ4;obtain⟨k,y⟩:=bQ5;obtain⟨l,z⟩:=bQ6;obtain⟨o,A⟩:=bQ7;obtain⟨p,B⟩:=bQ8;obtain⟨r,C⟩:=bQ9;let⟨E,G,H,J⟩:=R.pB;rw[d]at i;have a:=bL7;have b:=((At.refl R).res a {aJ:=1,case:= -1}).g (az a) {x with res:={aJ:=1,case:= -1},lQ:=S.av} (q:=12) (v:=I S.av);rw[aA]at b;have c:=b.g (az a) {x with res:={aJ:=1,case:= -1},lQ:=S.av,ae:=18} (q:=2) (v:=I 18);rw[aA]at c;unfold bR;go_enter func106,ntmps106;go_wp2_with (go_at_call 161;refine (ag (lW R ch bO false f)).out.mono ?_;rintro e K ⟨rfl,n,rfl⟩);go_end0;exact⟨ii,(ag c).out.aI⟩
end
theorem FK(R:bz af F w m S)(n:Good S)(g:Nat)(i:Int)(E:eX i)(S':Wd)(b:jI S g i=S'):gt 163 #[bR F,I g,i] w (ee λw'=>At af F m w m w' S'):=by
 unfold jI at b;simp only[bW,cI]at b;obtain⟨x,hx,b⟩:=b;have:=bM1;have:=R.dM;have:=R.eu;obtain⟨X,Y⟩:=bM2;obtain⟨G,Z⟩:=bQ4;obtain⟨H,tT⟩:=bQ5;obtain⟨J,tU⟩:=bQ6;obtain⟨K,tV⟩:=bQ7;obtain⟨M,tW⟩:=bQ8;obtain⟨N,tX⟩:=bQ9;let⟨aU,Gu,aY,aZ⟩:=R.pB;have f:=At.refl R;have j:=bL7;have HS:=ag (qJ R n i E)
 cases d:dK S i with
 |false=>
  rw[aE (by simp[d])]at b;rw[d]at HS;obtain⟨O,k,rfl⟩:=Nb b;rw[hx]at k
  cases k;have A1:=f.g j {x with ae:=6} (q:=2) (v:=I 6)
  have HA:=bO7;clear A1;clear R n hx b d f;unfold bR;go_enter func163,ntmps163;go_wp2_with (go_at_call 162;refine HS.out.mono ?_;rintro e w1 ⟨rfl,rfl⟩);go_end0;exact⟨ii,HA⟩
 |true=>
  rw[aF d]at b;rw[d]at HS;simp only[cI]at b;obtain⟨⟨c,r⟩,y,b⟩:=b;obtain⟨Q,l⟩:=kx y;subst Q;clear y;obtain⟨rr,rb,z,o,c5,cp⟩:=R.iJ l;obtain⟨Hw,A,a,T,B,k0,k1,U,_⟩:=R.eU l;rw[o]at A
  cases A;have cR:c<S.au.length:=um l;have hs:IntKind.i64.wrap ((c:Int)+1-1)=(c:Int):=cx7
  obtain⟨W,p⟩:=dC (r.count);rw[<-p]at U b;by_cases C:0<W
  .rw[aF C]at b;obtain⟨O,k,rfl⟩:=Nb b;rw[hx]at k
   cases k;have A1:=f.g j {x with ae:=9} (q:=2) (v:=I 9)
   have HA:=bO7;clear A1;clear R n hx b d f l z o B p;exact cd5
  rw[aE C]at b
  cases b;have A1:=f.res j {aJ:=1,case:= -1};have s:=A1.g (az j) {x with res:={aJ:=1,case:= -1},lQ:=S.av} (q:=12) (v:=I S.av)
  rw[aA]at s;have t:=s.g (az j) {x with res:={aJ:=1,case:= -1},lQ:=S.av,ae:=16} (q:=2) (v:=I 16);rw[aA]at t;have HA:=ag t;clear A1 s t;clear R n hx d f l z o B p;exact cd5
theorem At.cl(A:At af F D u m w S){c:Nat}(a:m.aV .aO=n)(b:Bool):At af F D u m (w.setCell (n,c) b) {S with aO:=S.aO.set c b}:=by
 refine A.set (r:=.aO) a (by simp[aj,at9]) ?_;exact cc9
section
variable(R:bz af F w m S)(aG:Good S)(g:Nat)(x:bI)(hx:S.gs[g]?=x)(ch:Int)(bO:eX ch)
include R aG g x hx ch bO
theorem Wz(d:cZ S ch)(f:dK S ch):gt 109 #[bR F,I g,ch] w (ee λw'=>At af F m w m w' (S.ay g {x with lQ:=S.av,res:={aJ:=4,case:= -1},ae:=16})):=by
 have:=bM1;have:=R.dM;have:=R.eu;obtain⟨B,C⟩:=bM2;obtain⟨o,E⟩:=bQ4;obtain⟨p,G⟩:=bQ5;obtain⟨r,H⟩:=bQ6;obtain⟨s,J⟩:=bQ7;obtain⟨t,K⟩:=bQ8;obtain⟨y,M⟩:=bQ9;have HX:=bL7;have i:=bR0;have j:Hid (gt 138 #[F.aQ,I ch] (w.setCell (F.gs,g*25+12) (I S.av)) λe w'=>e=Value.bool (cZ S ch)/\w.setCell (F.gs,g*25+12) (I S.av)=w'):=ag (aJ5 i.bj ch);let⟨c,b,z,k,A⟩:=qI aG d;rw[A]at f;subst f;let⟨N,a,O,Q⟩:=R.ka k;have:c<S.aO.length:=um k;have:IntKind.i64.wrap ((c:Int)+1-1)=(c:Int):=cx7
 have:=R.lt a;have:=(R.ne a R.aB.gs).symm;have:=(R.ne a R.aB.aQ).symm;have:=R.frozen a c;rw[d]at j;subst z;have l:=i.res (az HX) {aJ:=4,case:= -1};rw[aA]at l;have n:=l.g (az HX) {x with lQ:=S.av,res:={aJ:=4,case:= -1},ae:=16} (q:=2) (v:=I 16);rw[aA]at n;unfold bR;go_enter func109,ntmps109;go_wp2_with (go_at_call 138;refine j.out.mono ?_;rintro e T ⟨rfl,rfl⟩);refine UV (ad8 ii _ _ _) ii ⟨ii,(ag n).out.aI⟩
theorem WB(d:cZ S ch)(l:dK S ch=false)(n:List Bool)(C:Mach.put S.aO (ch-1) true=n):gt 109 #[bR F,I g,ch] w (ee λw'=>At af F m w m w' (({S with aO:=n}:Wd).ay g {x with lQ:=S.av,res:={aJ:=1,case:= -1,ok:=true},ae:=22})):=by
 have:=bM1;have:=R.dM;have:=R.eu;obtain⟨U,W⟩:=bM2;obtain⟨E,X⟩:=bQ4;obtain⟨G,Y⟩:=bQ5;obtain⟨H,Z⟩:=bQ6;obtain⟨J,tV⟩:=bQ7;obtain⟨K,tW⟩:=bQ8;obtain⟨M,tX⟩:=bQ9;have o:=At.refl R;have p:=bL7;have f:=o.g p {x with lQ:=S.av} (q:=12) (v:=I S.av);have r:Hid (gt 138 #[F.aQ,I ch] (w.setCell (F.gs,g*25+12) (I S.av)) λe w'=>e=Value.bool (cZ S ch)/\w.setCell (F.gs,g*25+12) (I S.av)=w'):=ag (aJ5 f.bj ch);have s:=C;let⟨c,b,N,i,t⟩:=qI aG d;rw[t]at l;subst l;let⟨O,a,c6,cx⟩:=R.ka i;have j:c<S.aO.length:=um i;have:IntKind.i64.wrap ((c:Int)+1-1)=(c:Int):=cx7
 have:=R.lt a;have Q:O≠F.aQ:=R.ne a R.aB.aQ;have:=(R.ne a R.aB.gs).symm;have:=Q.symm;have:=R.frozen a c;rw[d]at r;subst N;rw[show(c:Int)+1-1=(c:Int)by omega,bv8 j]at s
 cases s;have y:(S.ay g {x with lQ:=S.av}).gs[g]?=some {x with lQ:=S.av}:=az p
 have z:=f.cl (c:=c) a true;have k:({(S.ay g {x with lQ:=S.av})with aO:=(S.ay g {x with lQ:=S.av}).aO.set c true}:Wd).gs[g]?=some {x with lQ:=S.av}:=y;have A:=z.res k {aJ:=1,case:= -1,ok:=true};have B:=A.g (az k) {x with lQ:=S.av,res:={aJ:=1,case:= -1,ok:=true},ae:=22} (q:=2) (v:=I 22);have T:=ag (B.eq (S':=(({S with aO:=S.aO.set c true}:Wd).ay g {x with lQ:=S.av,res:={aJ:=1,case:= -1,ok:=true},ae:=22})) cs4);clear A B z y k;clear R aG hx o f i a t d;unfold bR;go_enter func109,ntmps109;go_wp2_with (go_at_call 138;refine r.out.mono ?_;rintro e w1 ⟨rfl,rfl⟩);go_end0;exact⟨ii,T.out.aI⟩
theorem WC(f:cZ S ch=false):gt 109 #[bR F,I g,ch] w (ee λw'=>At af F m w m w' (S.ay g {x with lQ:=S.av,res:={aJ:=1,case:= -1,ok:=true},ae:=22})):=by
 have:=bM1;have:=R.dM;have:=R.eu;obtain⟨p,r⟩:=bM2;obtain⟨i,s⟩:=bQ4;obtain⟨j,t⟩:=bQ5;obtain⟨k,y⟩:=bQ6;obtain⟨l,z⟩:=bQ7;obtain⟨n,A⟩:=bQ8;obtain⟨o,B⟩:=bQ9;have HX:=bL7;have a:=bR0;have b:Hid (gt 138 #[F.aQ,I ch] (w.setCell (F.gs,g*25+12) (I S.av)) λe w'=>e=Value.bool (cZ S ch)/\w.setCell (F.gs,g*25+12) (I S.av)=w'):=ag (aJ5 a.bj ch);rw[f]at b;have c:=a.res (az HX) {aJ:=1,case:= -1,ok:=true};rw[aA]at c;have d:=c.g (az HX) {x with lQ:=S.av,res:={aJ:=1,case:= -1,ok:=true},ae:=22} (q:=2) (v:=I 22);rw[aA]at d;unfold bR;go_enter func109,ntmps109;go_wp2_with (go_at_call 138;refine b.out.mono ?_;rintro e C ⟨rfl,rfl⟩);go_end0;exact⟨ii,(ag d).out.aI⟩
end
theorem Mh(R:bz af F w m S)(e:Good S)(g:Nat)(b:Int)(f:eX b)(S':Wd)(a:uD S g b=S'):gt 109 #[F.aQ,I g,b] w (ee λw'=>At af F m w m w' S'):=by
 unfold uD at a;simp[bW,cI]at a;let⟨x,i,a⟩:=a
 cases c:dK S b with
 |true=>
  have d:cZ S b=true:=by unfold dK at c;simp[qs]at c;exact c.1
  rw[c,aF rfl]at a;grind [Wz]
 |false=>
  rw[c,aE sX]at a
  cases d:cZ S b with
  |true=>
   rw[d,aF rfl]at a;simp[cI]at a;grind [WB]
  |false=>
   rw[d,aE sX]at a;grind [WC]
theorem PA{S':Wd}(a:yo S b=S'):∃x s c d z y,S.gs[b]?=some x/\x.br=(s:Nat)/\fZ (S.ay b {x with t:=S.av}) s=some c/\c.ah[s]?=some d/\d.g=(z:Nat)/\c.gs[z]?=some y/\z≠b/\Mach.serve (c.ay z {y with lQ:=c.av,fire:=d.case}) b s false=S':=by
 unfold yo at a;simp only[bW,cI]at a;let⟨x,f,s,g,c,h,d,i,z,j,y,k,a⟩:=a;by_cases e:z=b
 .rw[aF e]at a;cases a
 rw[aE e]at a;exact⟨x,s,c,d,z,y,f,du g,h,i,du j,k,e,a⟩
theorem PB(R:bz af F w m S)(g:Nat)(S':Wd)(p:yo S g=S'):gt 168 #[bR F,I g] w (ee (To af F m w S')):=by
 let⟨x,s,c,r,z,y,d,A,B,i,C,j,mh,E⟩:=PA p;have Q:=um d;have c3:=R.eu;have:=R.dM;have:=R.dR;have T:=R.g d 9 _ ii;let⟨U,Zv⟩:=R.ps d 10 rfl;let⟨aU,Gu,aY,aZ⟩:=R.pB;rw[A]at T;have A1:=(At.refl R).g d {x with t:=S.av} (q:=10) (v:=I S.av);have W:=bO7;have k:c.gs[g]?=some {x with t:=S.av}/\c.gs.length=S.gs.length/\c.av=S.av/\c.ah=S.ah:=by grind [mF,Wd.ay]
 obtain⟨G,H,J,l⟩:=k;have:z<c.gs.length:=um j;have:s<c.ah.length:=um i;let⟨X,f,K,Y,Z,M⟩:=mr G j i C B E;have pI:=ag J;have:¬z*25+12=g*25+10:=oX
 have:¬z*25+14=g*25+10:=oX
 have:g<c.gs.length:=oX
 rw[<-H]at c3;clear R d A A1 G j i C B E p J l H Q;unfold bR;go_enter func168,ntmps168;go_wp2_with (go_at_call 150;refine(kv W Z).mono ?_;rintro e w2 ⟨⟨b,rfl⟩,n⟩;have a:=n.bj;have:=a.dM;have d3:=a.eu;have d9:=a.ax7;have l1:=a.lt a.aB.aQ;have l2:=a.lt a.aB.gs;have l3:=a.lt a.aB.ah;have n1:=a.ne a.aB.aQ a.aB.gs;have n2:=a.ne a.aB.ah a.aB.gs;have n3:=n1.symm;have n4:=n2.symm;have a0:=a.g X 10 _ ii;have a1:=a.g f 12 _ ii;have a2:=a.frozen a.aB.gs (z*25+12);have a3:=a.g f 14 _ ii;have a4:=a.frozen a.aB.gs (z*25+14);have s1:=a.s K 1 _ ii;have s3:=a.s K 3 _ ii;rw[Y.out]at s1;have nx:=ag n;clear n a);have N:=nx.out.g f {y with lQ:=S.av} (q:=12) (v:=I S.av);have o:=N.g (az f) {y with lQ:=S.av,fire:=r.case} (q:=14) (v:=I r.case);rw[aA]at o;rw[pI.out]at M;have HB:=ag o;clear N o;go_quiet (fail);go_wp2_with (go_at_call 152;refine(OQ HB.out.aI M).mono ?_;rintro e w3 ⟨rfl,mN,O⟩;have HC:=ag O;clear O);go_end0;exact⟨ii,mN,HC⟩
end
def gC(w:World)(a:am)(n:Nat)(c:bi):Prop:=0<n->∃b off:Nat,a=(b,off)/\∀(j:Nat) u,c[j]?=some u->w.cell? (b,off+j)=u
theorem gC.below{B:Nat}(h:gC u A n J)(c:Below B u f)(d:u<=B):gC f A n J:=λa=>by
 let⟨b,off,e,g⟩:=h a;grind [cw]
theorem gC.nil(w:World)(a:am)(b:bi):gC w a 0 b:=λh=>aX h oX
section
variable{cap size:Nat}{e:TypeId}(h:A=none/\n=0/\cap=0\/A=f/\w'.ownsRow f e size (f.heap.size,n,cap) n J)
include h
theorem gC.qE:gC w' A n J:=by
 obtain⟨rfl,rfl,rfl⟩|⟨rfl,h⟩:=h
 .exact gC.nil _ _ _
 intro a;exact cg7
theorem pG:∀(b:Nat) (off:Nat),A=(b,off)->f<=b/\b<w':=by
 intro b off e;obtain⟨a,_⟩|⟨a,c⟩:=h
 .rw[a]at e;cases e
 rw[a]at e;cases e;let⟨_,d⟩:=aQ0.aX1 (ty:=none) (p:=(_,size)) (λq h=>ck3) c;exact⟨rx _,d.lt⟩
end
section
variable{cap size:Nat}{e:TypeId}(h:f.ownsRow z e size (A,n,cap) n J)
include h
theorem gC.tO:gC f A n J:=by
 intro d;obtain⟨b,i⟩|⟨g,k,c,b,_⟩:=h.2
 .omega
 obtain⟨rfl,_,rfl⟩:=b;exact cg7
theorem lJ:∀(b:Nat) (off:Nat),A=(b,off)->z<=b/\b<f:=by
 obtain⟨c,d⟩|⟨g,j,i,c,d,_⟩:=h.2
 all_goals grind
end
section
variable{af:Nat}{F:Fx}{w:World}{m:Mem}
theorem bz.Ib(R:bz af F w m t){r:bH}(h:aj m t r=[]->n=0):∃a c,m.cU r n=.slice a n c/\gC w a n (aj m t r):=by
 cases e:m.aV r with
 |none=>
  have:=h (R.none_ r e);subst this;exact⟨none,0,Mem.j6 e,gC.nil _ _ _⟩
 |some b=>exact⟨_,_,Mem.de e,λ_=>⟨b,0,ii,λj d f=>by rw[wl];exact R.cell e f⟩⟩
theorem qF{α:Type}{f:α->Value}{l:List α}(h:l.map f=[]):l.length=0:=ck0
section
variable(R:bz af F w m t)
include R
theorem ET(v:t.Eg.aK.length<=1000):gt 46 #[F.Eg] w λe l=>∃a c,e=Value.slice a t.Eg.aK c/\gC l a t.Eg.aK (t.Eg.aK.map I)/\Below w w l/\∀(b:Nat) (off:Nat),a=(b,off)->w<=b/\b<l:=by
 let⟨K,x,y,z,A⟩:=AC lC;let⟨a,c,o,p⟩:=R.Ib (r:=.aK) (n:=t.Eg.aK.length) qF;have c3:=R.uK;rw[o]at c3;let⟨n,g⟩:=dC (t.Eg.aK.length);let⟨i,f⟩:=dC (t.Eg.aK.map I);have q:i.length=n*1:=by rw[f,g];simp
 have B:Hid (0<n->∃b off,a=some ⟨b,off,none⟩/\∀j d,i[j]?=some d->w.cell? ⟨b,off+j,none⟩=some d):=by rw[f,g];exact p
 have C:Hid (∀d∈i,d.oneCell'=true):=by rw[f];exact bI4 _ _
 rw[<-g]at c3 v ⊢;rw[<-f];have E:=ag q;clear R o p g f q;go_enter func46,ntmps46;go_wp2_with (at_builtin;go_loud (refine gu ii _ _ 28 rfl underlying28 x y z A ii dX dX ii a n c ii i E B C oX ?_));intro G H L J s;go_wp2;go_ret;exact⟨G,H,ii,ag (gC.qE s),(fp).grown J cG cm0,ag (pG s)⟩
theorem Ic:Calls prog 47 #[F.Eg] w (eL t.Eg.cO λa=>w=a):=by
 have:=R.Ho;exact bZ9
theorem EV:Calls prog 48 #[F.gN] w (eL t.drawn λa=>w=a):=by
 have:=R.bn0;exact bZ9
end
theorem Ie(n:Nat)(b:1<=n/\n<=1000)(w:World):Calls prog 57 #[I n] w (eL (I (2*n-2)) λa=>w=a):=by
 go_wp2;go_ret;exact⟨cj8,ii⟩
theorem Ig(n:Nat)(b:1<=n/\n<=1000)(w:World):Calls prog 58 #[I n] w (eL (I (2*n-1)) λa=>w=a):=by
 go_wp2;go_ret;exact⟨cj8,ii⟩
theorem EW(R:bz af F w m t)(g:Nat)(c:ce)(i:t.Eg.aC[g]?=c)(C:c.length<=1000)(E:t.Eg.aC.length<=1000):gt 52 #[F.Eg,I g] w λe p=>∃a q,e=Value.slice a c q/\gC p a c (c.map I)/\Below w w p/\∀(b:Nat) (off:Nat),a=(b,off)->w<=b/\b<p:=by
 let⟨X,G,H,J,K⟩:=AC lC;have s:aj m t (.cache g)=c.map I:=by simp[aj,i]
 let⟨a,q,x,v⟩:=R.Ib (r:=.cache g) (n:=c.length) (by rw[s];exact qF);rw[s]at v;have L:=fm i;have c2:=R.pf;have y:=R.tH i;rw[x]at y;let⟨n,l⟩:=dC (c.length);let⟨N,z⟩:=dC (t.Eg.aC.length);let⟨o,f⟩:=dC (c.map I);have A:o.length=n*1:=by rw[f,l];simp
 have M:Hid (0<n->∃b off,a=some ⟨b,off,none⟩/\∀j d,o[j]?=some d->w.cell? ⟨b,off+j,none⟩=some d):=by rw[f,l];exact v
 have O:Hid (∀d∈o,d.oneCell'=true):=by rw[f];exact bI4 _ _
 rw[<-l]at y C ⊢;rw[<-z]at c2 L E;rw[<-f];have Q:=ag A;clear R x v l f A s i z;go_enter func52,ntmps52;go_wp2_with (first|(at_builtin;go_loud (refine gu ii (.const ()) (.tmp 15) 28 rfl underlying28 G H J K ii dX dX ii a n q ii o Q M O oX ?_))|go_in);intro T U Y W B;go_wp2;go_ret;exact⟨T,U,ii,ag (gC.qE B),(fp).grown W cG cm0,ag (pG B)⟩
end
theorem aJ4(o:cu)(d:o.ai=9)(a:am)(c:Nat)(w:World)(f:n=o.cases)(hr:mI o)(g:o.ch≠0\/o.v≠0\/o.n≠0):gt 42 #[.agg #[o.ai,o.ch,o.n,o.v,(a,n,c),o.dG]] w (eL (.bool (yF o)) (Below w w)):=by
 have e:yF o=false:=by grind [DB,il,kD]
 rw[e,d];have:n<=6:=by unfold mI at hr;simp at hr;rw[f];omega
 have:decide (6<(n:Int))=false:=ci8
 have:il 9=false:=dX
 have:kD 9=false:=dX
 have b:0<=o.ch/\o.ch<=8/\0<=o.n/\o.n<=4/\0<=o.v/\o.v<=255:=cu8
 let⟨m,i⟩:=dC (o.ch);let⟨p,j⟩:=dC (o.n);let⟨v,k⟩:=dC (o.v);rw[<-i,<-j,<-k]at b g ⊢;let⟨q,r,s,t,u,x⟩:=b;go_enter func42,ntmps42;go_wp2_with (first|(go_at_call 75;refine(sq).mono ?_;rintro e l ⟨rfl,rfl⟩)|(go_at_call 76;refine(uc).mono ?_;rintro e l ⟨rfl,rfl⟩))
 all_goals first
  |(exfalso;omega)
  |(go_ret;exact⟨ii,(fp).alloc cG _⟩)
  |(exfalso;simp_all;done)
  |(exfalso;simp_all;omega)
variable{Pb:Nat->Prop}
theorem bt1{w:World}{c1 c3 c4:dl}{t1 t2 t3 t4:TypeId}(h:(((w.alloc (c1,t1)).alloc (c2,t2)).alloc (c3,t3)).alloc (c4,t4)=u):∃e,kL w e/\e=w.heap.size+3/\u=w.heap.size+4/\kL e u/\qf e w c1/\qf e (w+1) c2/\qf e (w+1+1) c3/\qf u (w+1+1+1) c4/\Hid (u.heap[w.heap.size+1+1+1]?=some (.cells c4 t4 (0,0))):=by
 obtain⟨l,s,a,b,c,_⟩:=bR2;let⟨_,g,d,f⟩:=Z9 h;subst h;rw[s]at d f;exact⟨_,l,s,by rw[g,s],sX,a,b,c,d,f⟩
@[simp] theorem bF4(n:Nat):n<=n+1+1+1:=oX
def PMv(Pb:Nat->Prop)(f w:World)(R:V.q9->Prop)(e:Ending)(a:World):Prop:=∃b g c wc M v d,e=Value.tuple #[.agg #[.slice b (V.q9.MP M).length g,.slice c M.ws wc],I v,.bool d]/\(∀W,Kept Pb f w a W->Fa Pb W b c M)/\(d->R M)/\kL w a
theorem bp4(M:V.q9)(g i h k:Int)(a b:cu)(A d C D:am)(x f j m:Nat)(y w:World)(z:Fa Pb y A d M)(T:ix wX Pb y C a.cases)(U:ix wX Pb y D b.cases)(hF:aV2 Pb y w)(hP:∀k,w.heap.size<=k->Pb k):gt 187 #[.agg #[(A,M.MP.length,x),(d,M.ws.length,f)],g,qG a C j,i,h,qG b D m,k] w (PMv Pb y w λM'=>M'=⟨M.MP,V.out h (V.out g M.ws)⟩):=by
 have PX:Hid (∀W,kL w W->gt 13 #[qG a C j,I i] W (bb0 W a i)):=λW hW=>aR3 a i W C j (T.Ur (hF.trans hW))
 have Bm:Hid (∀W,kL w W->gt 13 #[qG b D m,I k] W (bb0 W b k)):=λW hW=>aR3 b k W D m (U.Ur (hF.trans hW))
 have MF:Hid (∀E W,gt 186 #[.agg #[(A,M.MP.length,x),(d,M.ws.length,f)],I E] W (aU1 W (1<=E/\E<=M.MP.length))):=λE W=>gJ E A x z.1.1 W
 have F:Hid (∀g W,kL w W->gt 211 #[.agg #[(A,M.MP.length,x),(d,M.ws.length,f)],I g] W (aU1 W (∃u∈M.ws,u.g=g))):=λg W hW=>be9 M.ws g _ d f W (z.2.Ur (hF.trans hW))
 have X:Hid (∀g v W,(v=qG a C j\/v=qG b D m)->kL w W->gt 213 #[.agg #[(A,M.MP.length,x),(d,M.ws.length,f)],I g,v] W λe Y=>∃b:Bool,e=B b/\kL W Y):=λg v W hv hW=>by
  obtain rfl|rfl:=hv
  .exact bd4 M.ws g a _ d C f j W (z.2.Ur (hF.trans hW)) (T.Ur (hF.trans hW))
  exact bd4 M.ws g b _ d D f m W (z.2.Ur (hF.trans hW)) (U.Ur (hF.trans hW))
 have Z:Hid (∀W,kL w W->gt 214 #[(d,M.ws.length,f),I g] W λe Y=>∃a c,e=Value.slice a (V.out g M.ws).length c/\Own wtE 236 Pb y W Y (.slice a (V.out g M.ws).length c) (V.out g M.ws)):=λW hW=>aY1 M.ws g d f y W (z.2.to2 (hF.trans hW))
 have:=z.1.1;let⟨K,HP⟩:=dA z hP;clear z T U hP;go_enter func187,ntmps187;go_upto_region 1 with fail
 generalize hW:World.alloc (World.alloc (World.alloc (World.alloc w _) _) _) _=W1;let⟨W0,L0,S0,S1,L1,⟨K1,_⟩,⟨K2,_⟩,⟨K3,_⟩,⟨K4,F4⟩,HX⟩:=bt1 hW;obtain⟨Fe,L⟩:=bL2;clear hW S1 S0;go_upto_region 2 with(go_at_call 13;refine(PX _ L).mono ?_;rintro e N ⟨s,ok,rfl,_,l3⟩)
 generalize hW:World.alloc N _=W2;obtain⟨l4,_,⟨K5,_⟩,_⟩:=bN5;have z2:=(L1.trans l3).trans l4;clear hW;go_upto_region 3 with(go_at_call 13;refine(Bm _ (L0.trans z2)).mono ?_;rintro e w5 ⟨r,is,rfl,_,l5⟩)
 generalize hW:World.alloc w5 _=W3;obtain⟨l6,_,⟨K6,_⟩,_⟩:=bN5;have c3:=l5.trans l6;have z3:=z2.trans c3;have b3:=(l3.trans l4).trans c3;clear hW;go_cut [18,20,67]from 22 (λ_ _ t wx=>∃o:Bool,t=.bool o/\kL W3 wx/\Hid (o=false->1<=s.ch/\s.ch<=M.MP.length))
 case first=>
  rcases e1:g==h with _|_
  all_goals
   go_wp2_with (go_at_call 186;refine(MF _ _).mono ?_;rintro e O ⟨o,rfl,p,l⟩;have HS:=ag p;clear p)
  all_goals
   go_meet;exact⟨_,ii,by first|assumption|exact kb _,by first|(intro h;cases h;done)|(intro h;have:=HS.out.1 ck0;omega)⟩
 obtain⟨o,rfl,d4,HS⟩:=hcut;have z4:=z3.trans d4;have b4:=b3.trans d4;have c4:=c3.trans d4;have a4:=L0.trans z4
 cases o with
 |true=>
  go_wp2;refine aZ7 ii ii (aw1 (kL.heap b4 HX) _ _) aR1 ?_;exact⟨A,x,d,f,M,0,false,ii,λW h=>K.out.Ur h.1,λh=>ck3,by simp[a4]⟩
 |false=>
  let⟨k0,c,e1,Q,hc,_⟩:∃(k:Nat) (c:V.Ch),s.ch=k+1/\k<M.MP.length/\M.MP[k]?=some c/\True:=by
   let⟨p1,p2⟩:=HS.out sX;obtain⟨k,c,q1,q2,q3,_⟩|⟨q,_⟩:=bi1 M s.ch
   .exact⟨k,c,q1,q2,q3,trivial⟩
   omega
  obtain⟨bc,off,cs,rfl,⟨bx,bn,zs,rfl,h0,hz,_⟩,R,R0⟩:=(K.out.1.to2 hF).get (n:=3) hc;have pJ:=hz.1;rw[h0]at pJ;have:IntKind.i64.wrap ((k0:Int)+1-1)=k0:=cx7
  clear h0 hz hc;go_upto_region 6 with fail
  generalize hW:World.alloc wc _=W5;obtain⟨l7,_,⟨K7,_⟩,_⟩:=bN5;have z5:=z4.trans l7;have b5:=b4.trans l7;have a5:=L0.trans z5;have c5:=c4.trans l7;clear hW;go_cut [108]from 22 (λt wx=>∃o:Bool,t=.bool o/\kL W5 wx)
  case first=>
   have:∀W,kL W5 W->kL W0 W:=λW h=>z5.trans h
   have p:Hid (∀W,kL W5 W->kL w W):=λW h=>a5.trans h
   go_wp2_with (first
    |(go_at_call 213;(first|refine(X _ _ _ ?_ (p.out _ t3)).mono ?_|refine(X _ _ _ ?_ (p.out _ t2)).mono ?_|refine(X _ _ _ ?_ (p.out _ t1)).mono ?_);(first|exact .inl rfl|exact .inr rfl);rintro e w7 ⟨J,rfl,G⟩;(first|have t3:=t3.trans G|have t3:=t2.trans G|have t3:=t1.trans G))
    |(go_at_call 211;refine(F _ _ (p.out _ t1)).mono ?_;rintro e w7 ⟨p2,rfl,-,G⟩;have t2:=t1.trans G;cases p2)
    |(go_at_call 211;refine(F _ _ a5).mono ?_;rintro e O ⟨p1,rfl,-,H⟩;have t1:=H;cases p1))
   all_goals
    go_meet;exact⟨_,ii,by first|assumption|exact kb _⟩
  obtain⟨o,rfl,d8⟩:=hcut;have z8:=z5.trans d8;have b8:=b5.trans d8;have S:=a5.trans d8
  cases o with
  |true=>
   go_wp2;refine aZ7 ii ii (aw1 (kL.heap b8 HX) _ _) aR1 ?_;exact⟨_,x,d,f,M,0,false,ii,λW h=>K.out.Ur h.1,λh=>ck3,by simp[S]⟩
  |false=>
   have c8:=c5.trans d8;have p:∀W,kL W2 W->W.cell? (N.heap.size,2)=I s.v:=λW h=>K5 W h 2 sX
   have cM:N.heap.size≠w.heap.size+1+1+1:=(by have:=l3.size;have:=Fe.out.2;omega);go_upto_region 8 with fail
   have s0:=dO (m8 z8) (p _ (m8 c8))
   go_region_held3 (λW=>kL W0 W/\W.cell? (N.heap.size,2)=I s.v) (first|with_reducible exact s0|with_reducible exact s2|with_reducible exact s1|exact⟨aU9 s2.1 (by rw[Fe.out.1];exact rx _) _ _,(kZ (aS2 (dE cM))).trans s2.2⟩)
    (first
    |(go_at_call 214;refine(aY1 (V.out g M.ws) h _ _ y _ (SD.out.rd2 λk Q=>HP k (jm (by first|exact(m8 S).size|simpa using S.size) Q))).mono ?_;rintro e w7 ⟨a2,c2,rfl,G⟩;have s2:=dO (s1.1.trans G.1) (p _ (c9.trans G.1));have H:=b9.trans G.1;have a0:=ag G;clear G)
    |(go_at_call 214;refine(Z _ (m8 S)).mono ?_;rintro e O ⟨a1,c1,rfl,J⟩;have c9:=(m8 c8).trans J.1;have b9:=(m8 b8).trans J.1;have s1:=dO (s0.1.trans J.1) (p _ c9);have SD:=ag J;clear J))
   go_wp2;refine aZ7 ii ii (aw1 (kL.heap H HX) _ _) aR1 ?_;have:w.heap.size+1+1+1<O.heap.size/\w.heap.size<=O.heap.size:=(by have:=b9.size;have:=Fe.out.2;omega);exact⟨_,x,a2,c2,⟨M.MP,V.out h (V.out g M.ws)⟩,s.v,true,ii,λW q=>⟨K.out.1.Ur q.1,a0.out.rd q.1 (λk Q=>HP k oX) λk Q jO=>(q.2 k oX (by simpa using jO)).trans (aS2 oX)⟩,λ_=>rfl,by simp[L.trans H]⟩