import Derived.Test.YtadifmnmfnihdaaGreatA01
set_option linter.all false
set_option maxRecDepth 100000
set_option maxHeartbeats 40000000
namespace Go.Proofs.YtadifmnmfnihdaaGreat
open Go.RowKit Mach Go.Proofs.Tryz
variable{v u f w' w2:World}{b n z p X cp:Nat}{a:Value}{R Y:Int}{L:cu}{Z:Bool}{F us c2:dl}{A:am}
variable{Pb:Nat->Prop}
theorem bu1:XS 57 2 1:=⟨by kernel_rfl,by kernel_rfl⟩
abbrev NX(r:nP):Array Value:=#[r.aJ,r.case,r.v,r.ok,r.n]
def bg9(Pb:Nat->Prop)(h w:World)(M:V.q9)(g:Int)(o:cu)(i:Int)(e:Ending)(b:World):Prop:=∃c j d k a r f,e=Value.tuple #[.agg #[.slice c (V.q9.MP a).length j,.slice d a.ws k],.agg (NX r),.bool f]/\(∀W,Kept Pb h w b W->Fa Pb W c d a)/\(f->a.ws=V.out g M.ws/\V.aU2 M o i r a.MP)/\kL w b
theorem kF{t:TypeId}{i j k l:Value}(h:v.heap[b]?=some (.cells #[a,i,j,k,l] t (0,0)))(c d e f g:Value):(((((v.setCell b c).setCell (b,1) d).setCell (b,2) e).setCell (b,3) f).setCell (b,4) g).heap[b]?=some (.cells #[c,d,e,f,g] t (0,0)):=
 ms _ b 4 _ _ g (ms _ b 3 _ _ f (ms _ b 2 _ _ e (ms _ b 1 _ _ d (ms v b 0 _ _ c h))))
theorem bo6{W:World}{k:Nat}{v0 v1 v2 v3 v4:Value}(h:b≠k):(((((W.setCell b v0).setCell (b,1) v1).setCell (b,2) v2).setCell (b,3) v3).setCell (b,4) v4).heap[k]?=W.heap[k]?:=
 (fQ (dE h)).trans ((fQ (dE h)).trans ((fQ (dE h)).trans ((fQ (dE h)).trans (fQ (dE h)))))
abbrev be0(W:World)(b a:Nat)(x y:Value)(r:nP):World:=((((((W.setCell b x).setCell (b,1) y).setCell a r.aJ).setCell (a,1) r.case).setCell (a,2) r.v).setCell (a,3) r.ok).setCell (a,4) r.n
theorem aZ2{W:World}{M M':V.q9}{ca wa:am}{cc wq:Nat}(r:nP){w A c1 c2 c3 c4:Value}(C:F.getD 8 undef=b)(D:F.getD 9 undef=z)(E:F.getD 10 undef=.bool Z)(o:w'=be0 W b z (ca,M'.MP.length,cc) (wa,M'.ws.length,wq) r\/w'=(be0 W b z (ca,M'.MP.length,cc) (wa,M'.ws.length,wq) r).drew)(G:W.heap[b]?=some (.cells #[a,w] 129 (0,0)))(H:W.heap[z]?=some (.cells #[A,c1,c2,c3,c4] 44 (0,0)))(d:f<=b/\f<=z/\b<z)(l:kL f W)(J:∀e,aV2 Pb u e->(∀k,z<k->k<W->e.heap[k]?=W.heap[k]?)->Fa Pb e ca wa M')(K:Z->M'.ws=V.out R M.ws/\V.aU2 M L Y r M'.MP):bodyPost prog Tryz.f212 (bg9 Pb u f M R L Y) .ret ⟨F,[]⟩ w':=by
 have p:(be0 W b z (.slice ca M'.MP.length cc) (.slice wa M'.ws.length wq) r).heap[b]?=_:=(bo6 (W:=(W.setCell ⟨b,0,none⟩ (.slice ca M'.MP.length cc)).setCell ⟨b,1,none⟩ (.slice wa M'.ws.length wq)) (b:=z) (k:=b) (v0:=I r.aJ) (v1:=I r.case) (v2:=I r.v) (v3:=B r.ok) (v4:=I r.n) oX).trans (aw1 G _ _);have q:(be0 W b z (.slice ca M'.MP.length cc) (.slice wa M'.ws.length wq) r).heap[z]?=_:=kF ((aS2 (x:=.slice ca M'.MP.length cc) (y:=.slice wa M'.ws.length wq) (i:=0) (j:=1) (by omega:b≠z)).trans H) (I r.aJ) (I r.case) (I r.v) (B r.ok) (I r.n);have m:kL f (be0 W b z (.slice ca M'.MP.length cc) (.slice wa M'.ws.length wq) r):=Gv (Gv (Gv (Gv (Gv (Gv (Gv l d.1 _) d.1 _) d.2.1 _) d.2.1 _) d.2.1 _) d.2.1 _) d.2.1 _;have s:∀k,z<k->(be0 W b z (.slice ca M'.MP.length cc) (.slice wa M'.ws.length wq) r).heap[k]?=W.heap[k]?:=λk t=>(bo6 oX).trans (aS2 oX)
 have N:(be0 W b z (.slice ca M'.MP.length cc) (.slice wa M'.ws.length wq) r).heap.size=W.heap.size:=by simp[be0,World.setCell]
 have O:∀c:World,c.drew.heap=c.heap:=λ_=>rfl
 generalize be0 W b z (.slice ca M'.MP.length cc) (.slice wa M'.ws.length wq) r=c at o p q m s N;have g:∀w':World,w'.heap=c.heap->kL f w'->bodyPost prog Tryz.f212 (bg9 Pb u f M R L Y) .ret ⟨F,[]⟩ w':=λw' i l=>by refine bw0 ii C D ((congrArg (λh=>h[b]?) i).trans p) ((congrArg (λh=>h[z]?) i).trans q) aR1 bu0 ?_;exact⟨ca,cc,wa,wq,M',r,Z,by rw[E],λe h=>J e h.1 λk t Q=>(h.2 k oX (by rw[i];omega)).trans (by rw[i];exact s k t),K,l⟩
 rcases o with rfl|rfl
 .exact g _ ii m
 exact g _ ii (m8 m)
theorem ba5{i:Int}(h:L.ai=1\/L.ai=6\/L.ai=7\/L.ai=8):V.Xq L i=none:=by
 unfold V.Xq;rw[aE oX,aE oX,aE oX]
theorem bA7{w:World}{t:TypeId}(l:kL (w.alloc (F,t)).drew v):kL w v/\qf v w F:=bj3 ((m8 (kb _)).trans l)
def Cn(w W1 wc:World)(bs:Nat)(W:World):Prop:=kL w W/\wc<=W.heap.size/\∀k,(k=w.heap.size+1+1\/k=w+1+1+1\/W1<=k/\k≠bs)->k<wc->W.heap[k]?=wc.heap[k]?
theorem Cn.of{W1 wc:World}{bs:Nat}(a:kL v wc)(h:kL wc u):Cn v W1 wc bs u:=⟨a.trans h,h.size,λk _ b=>Below.block h k b⟩
theorem Cn.set{w wc:World}{q:Nat}(h:Cn w u wc n f)(d:w+5=u.heap.size)(e:u<=n)(g:b=w+1+1+1+1\/b=n)(v:Value):Cn w u wc n (f.setCell (b,q) v):=
 ⟨Gv h.1 ci9 v,by simpa[World.setCell]using h.2.1,λk a c=>(fQ ci9).trans (h.2.2 k a c)⟩
theorem bh0(h:kL u f/\(∀(q:Nat),q<X->f.cell? (n,q)=F[q]?)/\∀(q:Nat),q<cp->f.cell? (z,q)=us[q]?)(a:u<=b/\b≠n/\b≠z)(v:Value):kL u (f.setCell (b,p) v)/\(∀(q:Nat),q<X->(f.setCell (b,p) v).cell? (n,q)=F[q]?)/\∀(q:Nat),q<cp->(f.setCell (b,p) v).cell? (z,q)=us[q]?:=
 ⟨Gv h.1 a.1 v,λq c=>(kZ (w:=f) (fQ (dE a.2.1))).trans (h.2.1 q c),λq c=>(kZ (w:=f) (fQ (dE a.2.2))).trans (h.2.2 q c)⟩
theorem bu2(h:kL v u/\(∀(q:Nat),q<z->u.cell? (b,q)=F[q]?)/\∀(q:Nat),q<p->u.cell? (n,q)=us[q]?):kL v u.drew/\(∀(q:Nat),q<z->u.drew.cell? (b,q)=F[q]?)/\∀(q:Nat),q<p->u.drew.cell? (n,q)=us[q]?:=⟨m8 h.1,h.2⟩
theorem qf.set{q:Nat}{v:Value}(h:qf u b F)(f:0<F.size)(i:n≠b):qf (u.setCell (n,q) v) b F:=by
 have e:=Go.RowKit.Below.heap_setCell u ⟨n,q,none⟩ v b (dE i);have g:=h.1 u (kb _);have j:b<u.heap.size:=ba0 u ⟨b,0,none⟩ ((g 0 f).trans (xL f));refine⟨λk c a d=>?_,λk c a=>?_⟩
 .rw[xL d];exact c.cell ((kZ (w:=u) e).trans ((g a d).trans (xL d)))
 rw[Below.frozen c (p:=⟨b,a,none⟩) (by simpa[World.setCell]using j)];exact(World.frozen?_setCell _ _ _ _).trans (h.2 u (kb _) a)
theorem ba2{d g:Nat}(h:kL u f/\(∀(q:Nat),q<cp->f.cell? (n,q)=F[q]?)/\(∀(q:Nat),q<d->f.cell? (z,q)=us[q]?)/\∀(q:Nat),q<g->f.cell? (p,q)=c2[q]?)(c:u<=b/\b≠n/\b≠z/\b≠p){v:Value}:kL u (f.setCell (b,X) v)/\(∀(q:Nat),q<cp->(f.setCell (b,X) v).cell? (n,q)=F[q]?)/\(∀(q:Nat),q<d->(f.setCell (b,X) v).cell? (z,q)=us[q]?)/\∀(q:Nat),q<g->(f.setCell (b,X) v).cell? (p,q)=c2[q]?:=
 have e:∀k,b≠k->∀q,(f.setCell ⟨b,X,none⟩ v).cell? ⟨k,q,none⟩=f.cell? ⟨k,q,none⟩:=λk i q=>kZ (w:=f) (fQ (dE i))
 ⟨Gv h.1 c.1 v,λq a=>(e _ c.2.1 q).trans (h.2.1 q a),λq a=>(e _ c.2.2.1 q).trans (h.2.2.1 q a),λq a=>(e _ c.2.2.2 q).trans (h.2.2.2 q a)⟩
theorem bn2(h:kL v u/\(∀(q:Nat),q<p->u.cell? (b,q)=F[q]?)/\(∀(q:Nat),q<X->u.cell? (n,q)=us[q]?)/\∀(q:Nat),q<cp->u.cell? (z,q)=c2[q]?):kL v u.drew/\(∀(q:Nat),q<p->u.drew.cell? (b,q)=F[q]?)/\(∀(q:Nat),q<X->u.drew.cell? (n,q)=us[q]?)/\∀(q:Nat),q<cp->u.drew.cell? (z,q)=c2[q]?:=⟨m8 h.1,h.2⟩
theorem Cn.later{wc:World}(h:Cn v u wc b f)(l:kL f w'):Cn v u wc b w':=⟨h.1.trans l,jm h.2.1 l.size,λk c a=>(Below.block l k (uB a h.2.1)).trans (h.2.2 k c a)⟩
theorem Cn.bE0{wc:World}(h:Cn u f wc n w')(e:wc<=b)(a:u<=b)(v:Value):Cn u f wc n (w'.setCell (b,z) v):=
 ⟨Gv h.1 a v,by simpa[World.setCell]using h.2.1,λk c d=>(fQ ci9).trans (h.2.2 k c d)⟩
theorem bc0{M:V.q9}{o:am}(i:Fa Pb v A o M)(hF:aV2 Pb v u)(h:1<=R/\R<=M.MP):∃(k:Nat) (c:V.Ch) (b off:Nat) (d:am) (f:Nat) (g:ce),R=k+1/\k<M.MP/\Hid (M.MP[k]?=c/\idx M.MP (R-1)=c/\g=c.len/\ix X8 Pb v d g/\c.cap<=1000/\c.len<=f)/\A=(b,off)/\c.len<=1000000/\(∀W,kL u W->∀(q:Nat),q<3->W.cell? (b,off+k*3+q)=[I c.cap,(d,c.len,f),c.pP][q]?)/\(∀W,kL u W->W.cell? (b,off+k*3)=I c.cap)/\IntKind.i64.wrap ((k:Int)+1-1)=k/\decide (M.MP<=k)=false:=by
 rcases bi1 M R with⟨k,c,p,hk,j,r⟩|⟨w,_⟩
 .obtain⟨b,off,x,e,⟨d,f,g,rfl,l,m,s⟩,a,t⟩:=(i.1.to2 hF).get (n:=3) j;have y:=i.1.1;exact⟨k,c,b,off,d,f,g,p,hk,⟨j,r,l,m,s⟩,e,by rw[<-l];exact m.1,a,t,cx7,cn9⟩
 omega
theorem bz2(k:Int):(k==1)\/(k==1)=false/\((k==7)\/(k==7)=false/\((k==8)\/(k==8)=false/\((k==6)\/(k==6)=false))):=by
 cases(k==1)<;>cases(k==7)<;>cases(k==8)<;>cases(k==6)<;>simp
theorem bA8{c1 c3 c4:dl}{t1 t2 t3 t4 t5:TypeId}(h:((((v.alloc (c1,t1)).alloc (c2,t2)).alloc (c3,t3)).alloc (c4,t4)).alloc (F,t5)=u):∃d,kL v d/\d=v.heap.size+1+1/\u=v.heap.size+5/\kL d u/\qf d v c1/\qf d (v+1) c2/\Hid (u.heap[v.heap.size+1+1]?=some (.cells c3 t3 (0,0)))/\Hid (u.heap[v.heap.size+1+1+1]?=some (.cells c4 t4 (0,0)))/\qf u (v+1+1+1+1) F/\Hid (u.heap[v.heap.size+1+1+1+1]?=some (.cells F t5 (0,0))):=by
 obtain⟨d,l,s,n,o,a,b,c,p⟩:=bs7 (w:=v) (c1:=c1) (t1:=t1) (c2:=c2) (t2:=t2) (c3:=c3) (t3:=t3) ii;obtain⟨g,i,_,j⟩:=Z9 (w:=((v.alloc (.cells c1 t1)).alloc (.cells c2 t2)).alloc (.cells c3 t3)) (c1:=c4) (t1:=t4) ii;obtain⟨f,k,e,m⟩:=Z9 h;subst h;rw[n]at j i;rw[i]at e k m;exact⟨d,l,s,k,(o.trans g).trans f,a,b,kL.heap (g.trans f) p,kL.heap f j,e,m⟩
theorem wS.tail{off:Nat}{i:ce}(h:wS X8 Pb u f (b,off) (R::i)):wS X8 Pb u f (b,off+1) i:=by
 obtain⟨l,d,g,m⟩:=h;obtain⟨s,t,e,n,o⟩:=m sX
 cases e
 cases d with
 |nil=>exact aX g.1 sX
 |cons c d=>
  have p:c=[I R]:=g.2 0 _ _ ii ii;refine⟨by simp at l;omega,d,⟨by have:=g.1;simpa using this,λk x q a b=>g.2 (k+1) x q (by simpa using a) (by simpa using b)⟩,λ_=>⟨b,off+1,ii,n,λj v r=>?_⟩⟩;rw[show off+1+j=off+(j+1)by omega];exact o (j+1) v (by rw[p];simpa using r)
structure Rdy(Pb:Nat->Prop)(wF W0 w W1 wc w5 w7:World)(bs:Nat)(s:Case)(r:nP)(c:V.Ch)(a:am)(cx:Nat)(zs:ce)(W:World):Prop where
 l:kL W0 W
 cn:Cn w W1 wc bs W
 sz:w7<W.heap.size
 b5:qf W (w+1+1+1+1) (NX r)
 b6:qf W w5 #[s.cF,s.ch,s.v]
 b7:qf W w7 #[c.cap,(a,c.len,cx),c.pP]
 z:zs=c.len
 le:c.len<=cx
 rd:∀W',(∀j,w7.heap.size<j->j<W->W'.heap[j]?=W.heap[j]?)->aV2 Pb wF W'->ix X8 Pb W' a zs
theorem bu3{wc g a d Y:World}{s:Case}{r:nP}{c:V.Ch}{l:am}{i:ce}(m:kL f d)(o:Cn w' w2 wc b d)(C:d=a.heap.size+1)(D:f<=a.heap.size/\w'+5<=a.heap.size/\wc<=a.heap.size/\g<a.heap.size)(q:d.heap[w'.heap.size+1+1+1+1]?=some (.cells (NX r) 44 (0,0)))(t:qf d g #[s.cF,s.ch,s.v])(w:d.heap[a.heap.size]?=some (.cells #[c.cap,(l,c.len,p),c.pP] 219 (0,0)))(H:Own X8 2 Pb u d Y (A,n,z) i)(x:n=i)(B:∀k,d.heap.size<=k->Pb k):Rdy Pb u f w' w2 wc g a b s r {c with len:=n} A z i (Y.setCell (a.heap.size,1) (A,n,z)):=by
 have y:=H.1;have E:=y.size;have e:∀k,k≠a.heap.size->(Y.setCell ⟨a.heap.size,1,none⟩ (.slice A n z)).heap[k]?=Y.heap[k]?:=λk j=>fQ j
 exact⟨Gv (m.trans y) ci9 _,(o.later y).bE0 oX oX _,cx0,((aI3 q).later y).set sX oX,(t.later y).set sX oX,aI3 (ms _ _ 1 _ _ _ (kL.heap y w)),x.symm,H.le,λF h hF=>H.rd hF B λk j jO=>(h k oX cr1).trans (e k oX)⟩
theorem bq2(M:V.q9)(g i:Int)(o:cu)(ca wa x:am)(cc wq cx:Nat)(C w:World)(HM:Fa Pb C ca wa M)(HO:ix wX Pb C x o.cases)(hF:aV2 Pb C w)(hP:∀k,w.heap.size<=k->Pb k)(hn:o.n<=1000):gt 212 #[.agg #[(ca,M.MP.length,cc),(wa,M.ws.length,wq)],g,qG o x cx,i] w (bg9 Pb C w M g o i):=by
 have HS:Hid (∀W v,v=qG o x cx->kL w W->gt 13 #[v,I i] W (bb0 W o i)):=λW v hv hW=>cx3
 have MF:Hid (∀ch W,gt 186 #[.agg #[.slice ca M.MP.length cc,.slice wa M.ws.length wq],I ch] W (aU1 W (1<=ch/\ch<=M.MP.length))):=λch W=>gJ ch ca cc HM.1.1 W
 have au:Hid (∀W,kL w W->gt 214 #[.slice wa M.ws.length wq,I g] W λe w'=>∃a c,e=.returned (.slice a (V.out g M.ws).length c)/\Own wtE 236 Pb C W w' (.slice a (V.out g M.ws).length c) (V.out g M.ws)):=λW hW=>aY1 M.ws g wa wq C W (HM.2.to2 (hF.trans hW))
 have hl:=HM.1.1;have ho:=HO.1;obtain⟨Fc,HP⟩:=dA HM hP;clear HM HO hP;go_enter func212,ntmps212;go_upto_region 2 with fail
 generalize hW:World.alloc (World.alloc (World.alloc (World.alloc (World.alloc w _) _) _) _) _=H;obtain⟨F,L0,S0,S1,L1,⟨K1,_⟩,⟨K2,_⟩,HX,HY,⟨K5,F5⟩,U⟩:=bA8 hW;have Fe:=ag (dO S0 S1);have L:=L0.trans L1;clear hW S1 S0;have av:F.heap.size<=H.heap.size:=L1.size;obtain⟨K8,F8⟩:=aI3 HX;obtain⟨KY,FY⟩:=aI3 HY;go_cut [12]from 18 (λv wx=>∃(u:Nat) (a1:am) (c1:Nat),v=.pointer (some ⟨u,0,none⟩)/\kL H wx/\H.heap.size<=u/\qf wx u #[.slice ca M.MP.length cc,.slice a1 (V.out g M.ws).length c1]/\Hid (∀X,aV2 Pb C X->(∀k,H.heap.size<=k->k≠u->k<wx.heap.size->X.heap[k]?=wx.heap[k]?)->ix wtE Pb X a1 (V.out g M.ws)))
 case first=>
  go_region_held3 (λW=>kL F W) (repeat(first|with_reducible exact L1|with_reducible exact J|with_reducible refine m8 ?_|with_reducible refine ah9 ?_ _|with_reducible refine Gv ?_ oX _))
   (first|(go_at_call 214;refine(au _ ?_).mono ?_;(first|exact m8 L|exact ah9 (m8 L) _|exact m8 (ah9 L _));rintro e N ⟨a1,c1,rfl,f⟩;have m:=kL.trans (w:=H) sX f.1;have J:=L1.trans m;have hq:=f.1;(first|(have A:=bA7 (w:=H) hq;obtain⟨_,O,Q⟩:=A;have D:=(m8 (kb _)).trans hq)|skip);clear hq;have G:=ag f;clear f))
  all_goals
   go_wp2_with fail
   go_meet
   case rel=>first
    |exact⟨_,a1,c1,ii,ah9 m _,m.size,aI3 (t:=129) (aA4),λX p q=>G.out.rd p (λk d=>HP k (jm (by first|exact L.size|exact(m8 L).size|(simp;have:=L.size;omega)) d)) λk d jO=>(q k d oX ci8).trans (gf _ _ _ jO)⟩
    |exact⟨_,a1,c1,ii,aU9 m cG _ _,rx _,aI3 (t:=129) (aw1 (kL.heap D (aA4)) _ _),λX p q=>G.out.rd p (λk d=>HP k (jm (by first|exact L.size|exact(m8 L).size|(simp;have:=L.size;omega)) d)) λk d jO=>(q k (by simp at d;omega) (by simp at d;omega) cr1).trans (aS2 (by simp at d;omega))⟩
 obtain⟨u,a1,c1,rfl,d1,qq,⟨K3,F3⟩,HR⟩:=hcut;have d0:=L1.trans d1;have dw:=L.trans d1;go_upto_region 5 with(go_at_call 186;refine(MF _ _).mono ?_;rintro e w4 ⟨mb,rfl,hs,l4⟩;have a3:=d0.trans l4;have a4:=d1.trans l4;have Zz:=ag hs;clear hs)
 have lw:=L.trans a4;have xW:=Fe.out.2;have a0:=d1.size
 have FIN:Hid (∀(r:nP) {W Z:World} {f:dl},Cn w H wc u W->f.getD 8 undef=.pointer (some ⟨w.heap.size+1+1,0,none⟩)->f.getD 9 undef=.pointer (some ⟨w.heap.size+1+1+1,0,none⟩)->f.getD 10 undef=.bool true->V.aU2 M o i r M.MP->
   (Z=be0 W (w.heap.size+1+1) (w.heap.size+1+1+1) (.slice ca M.MP.length cc) (.slice a1 (V.out g M.ws).length c1) r\/Z=(be0 W (w.heap.size+1+1) (w.heap.size+1+1+1) (.slice ca M.MP.length cc) (.slice a1 (V.out g M.ws).length c1) r).drew)->bodyPost prog Tryz.f212 (bg9 Pb C w M g o i) .ret ⟨f,[]⟩ Z):=λr W Z f hc p8 p9 ah hf hV=>
  aZ2 (M':=⟨M.MP,V.out g M.ws⟩) r p8 p9 ah hV ((hc.2.2 _ oX oX).trans (kL.heap d1 HX)) ((hc.2.2 _ oX oX).trans (kL.heap d1 HY)) oX hc.1 (λX p q=>⟨Fc.out.1.Ur p,HR X p λk d hb jO=>(q k oX (uB jO hc.2.1)).trans (hc.2.2 k oX jO)⟩) λ_=>⟨ii,hf⟩
 have CN:=ag (Cn.of (W1:=H) (bs:=u) dw l4);have CS:Hid (∀{W b q} v,Cn w H wc u W->(b=w.heap.size+1+1+1+1\/b=u)->Cn w H wc u (W.setCell ⟨b,q,none⟩ v)):=λv h hb=>h.set xW.symm qq hb v
 clear a0;clear xW;rcases bz2 o.ai with k1|⟨k1,k7|⟨k7,k8|⟨k8,k6|k6⟩⟩⟩
 .have HN:=ag (ba5 (i:=i) (show o.ai=1\/o.ai=6\/o.ai=7\/o.ai=8 by simp at k1;omega));by_cases Y:8<=M.MP.length
  .go_wp2;exact FIN ⟨7,-1,0,false,0⟩ CN ii ii ii (.still λs c h=>cr3) (.inl rfl)
  go_upto_region 8 with fail
  have aw:=l4.size;have D:=d1.size
  go_region_held3 (λW=>kL F W) (repeat(first|with_reducible exact a3|with_reducible exact G|with_reducible exact O|with_reducible refine m8 ?_|with_reducible refine ah9 ?_ _|refine Gv ?_ (jm av qq) _))
   (first
   |(refine aX6 ii (aX5 (E:=chE) (P:=Pb) (wF:=C) (w0:=w4) (xs:=[]) (ys:=M.MP) (.tmp 40) (.tmp 42) 126 219 rfl bm6 dX ii (by refine Own.ofE sX ?_ sX;first|exact aA4|exact aX4|exact aW4) ii ii (by exact Fc.out.1) (by exact hF.trans (by simp[lw])) ci8 ?_);intro v1 W5 U k5;obtain⟨a5,c5,rfl⟩:=U.shape;have y5:=U.1;have G:=a3.trans y5;obtain⟨Yh,a7⟩:=dA U k5;clear U k5)
   |(refine aX6 ii (aY0 (E:=chE) (P:=Pb) (wF:=C) (w0:=w4) (xs:=M.MP) (y:=⟨o.n,0,false⟩) (.tmp 43) (.tmp 47) 126 219 rfl bm6 dX ii (by first|exact Yh.out.alloc _|exact Yh) ii (by first|exact aA4|(refine a7 _ _ ?_ (aX4);intro e;have:=mx e;dsimp at this;omega)|(refine a7 _ _ ?_ (aW4);intro e;have:=mx e;dsimp at this;omega)) (by exact⟨none,0,[],ii,ii,wS.nil _,hn,rx _⟩) oX ?_);intro v2 W6 H6 _;obtain⟨J,N,rfl⟩:=H6.shape;have y6:=H6.1;have O:=a3.trans y6;have A:=l4.trans y6;have Q:=a4.trans y6;have SD:=ag H6;clear H6))
  all_goals
   go_upto_region 10 with fail
   go_region;go_wp2;have xW:=Fe.out.2;have T:=y6.size;have ax:u<wc.heap.size:=ba0 wc ⟨u,0,none⟩ (K3 wc (kb _) 0 sX);have m:=CS.out (q:=4) (I ((M.MP.length+1:Nat):Int)) (CS (q:=0) (.slice J (M.MP.length+1) N) (Cn.of (W1:=H) (bs:=u) dw A) (.inr rfl)) (.inl rfl);refine aZ2 (W:=((W6.setCell ⟨u,0,none⟩ (.slice J (M.MP.length+1) N)).setCell ⟨w.heap.size+1+1+1+1,4,none⟩ (I ((M.MP.length+1:Nat):Int)))) (M':=⟨M.MP++[⟨o.n,0,false⟩],V.out g M.ws⟩) (ca:=J) (cc:=N) (wa:=a1) (wq:=c1) ⟨1,-1,0,true,(M.MP.length+1:Nat)⟩ ii ii ii (.inr (by simp only[aU7,List.length_singleton]<;>rfl)) ((m.2.2 _ oX oX).trans (kL.heap d1 HX)) ((m.2.2 _ oX oX).trans (kL.heap d1 HY)) oX m.1 (λX p q=>⟨SD.out.rd p (λk d=>HP k (jm lw.size d)) λk d jO=>(q k oX cr1).trans ((fQ ci9).trans (fQ ci9)),HR X p λk d hb jO=>(q k oX (uB jO m.2.1)).trans (m.2.2 k oX jO)⟩) λ_=>⟨ii,.make cu2 ii sX⟩
 .have HN:=ag (ba5 (i:=i) (show o.ai=1\/o.ai=6\/o.ai=7\/o.ai=8 by simp at k7;omega))
  cases mb with
  |false=>
   go_upto_region 14 with fail
   exact ce9
  |true=>
   obtain⟨k,c,b,off,bx,bn,G,jg,d,A,rfl,cR,R,R0,v1,v2⟩:=bc0 Fc.out hF (Zz.out.1 ii);go_upto_region 14 with fail
   go_region;go_wp2;exact FIN ⟨1,-1,0,true,c.len⟩ (CS _ CN (.inl rfl)) ii ii ii (.still λs c h=>cr3) (.inr rfl)
 .have HN:=ag (ba5 (i:=i) (show o.ai=1\/o.ai=6\/o.ai=7\/o.ai=8 by simp at k8;omega))
  cases mb with
  |false=>
   go_upto_region 18 with fail
   exact ce9
  |true=>
   obtain⟨k,c,b,off,bx,bn,G,jg,d,A,rfl,cR,R,R0,v1,v2⟩:=bc0 Fc.out hF (Zz.out.1 ii);go_upto_region 18 with fail
   go_region;go_wp2;exact FIN ⟨1,-1,0,true,c.cap⟩ (CS _ CN (.inl rfl)) ii ii ii (.still λs c h=>cr3) (.inr rfl)
 .have HN:=ag (ba5 (i:=i) (show o.ai=1\/o.ai=6\/o.ai=7\/o.ai=8 by simp at k6;omega))
  cases mb with
  |false=>
   go_wp2;exact FIN ⟨5,-1,0,false,0⟩ CN ii ii ii (.still λs c h=>cr3) (.inl rfl)
  |true=>
   obtain⟨k,c,b,off,bx,bn,G,jg,d,A,rfl,cR,R,R0,v1,v2⟩:=bc0 Fc.out hF (Zz.out.1 ii);rcases mP:c.pP with _|_
   .go_upto_region 26 with fail
    generalize hW:World.alloc w4 _=W6;obtain⟨l6,_,⟨K6,_⟩,_⟩:=Z9 hW;clear hW;have x0:=a3.trans l6;have x1:=a4.trans l6;have xw:=lw.trans l6;have aw:=a4.size;have aK:=l6.size;have D:∀W,kL H W->∀q,q<5->W.cell? ⟨w.heap.size+1+1+1+1,q,none⟩=(#[I 1,I (-1),I 0,B true,I 0]:dl)[q]?:=λW h q hq=>K5 W h q hq
    have O:∀W,kL W6 W->∀q,q<3->W.cell? ⟨w4.heap.size,q,none⟩=(#[I c.cap,.slice bx c.len bn,B true]:dl)[q]?:=λW h q hq=>K6 W h q hq
    have s0:=dO (m8 x0) (dO (D _ (m8 x1)) (O _ (m8 (kb W6))));have a8:=ag (bc6 M g k {c with pP:=true} _ wa bx cc wq bn G (λ_=>True) C W6.drew Fc (hF.trans (m8 xw)) (λk d=>HP k (jm xw.size d)) d A.out.2.2.1 (λW _ h=>A.out.2.2.2.1.Ur h) A.out.2.2.2.2)
    go_region_held3 (λW=>kL F W/\(∀q,q<5->W.cell? ⟨w.heap.size+1+1+1+1,q,none⟩=(#[I 1,I (-1),I 0,B true,I 0]:dl)[q]?)/\∀q,q<3->W.cell? ⟨w4.heap.size,q,none⟩=(#[I c.cap,.slice bx c.len bn,B true]:dl)[q]?) (repeat(first|with_reducible exact s0|with_reducible exact s1|refine bh0 ?_ (by have:=Fe.out.1;have:=Fe.out.2;omega) _))
     (first|(go_at_call 218;refine a8.out.mono ?_;rintro e m ⟨Vl,Jf,BT,JK,rfl,Y,l7⟩;have Q:=x1.trans (kL.trans (m8 (kb W6)) l7);have y6:=kL.trans (m8 (kb W6)) l7;have s1:=dO (x0.trans y6) (dO (D _ Q) (O _ y6));have T:=ag Y;clear Y))
    go_wp2;have xW:=Fe.out.2;refine aZ2 (M':=⟨M.MP.set k {c with pP:=true},V.out g M.ws⟩) (ca:=Vl) (cc:=Jf) (wa:=BT) (wq:=JK) ⟨1,-1,0,true,0⟩ ii ii ii (.inl (by simp only[kI])) (kL.heap Q HX) (kL.heap Q HY) oX (L.trans Q) (λX p q=>T X ⟨p,λk d jO=>q k (by have:W6.heap.size<=k:=d;omega) jO⟩ trivial) λ_=>⟨ii,?_⟩
    have e:=V.aU2.close (M:=M) (o:=o) (i:=i) (r:=⟨1,-1,0,true,0⟩) c (by simpa using k6) ii A.out.2.1;rw[V.bd8,jg,show((k:Int)+1-1).toNat=k by omega]at e;exact e
   go_wp2;exact FIN ⟨4,-1,0,false,0⟩ (Cn.of dw (ah9 l4 _)) ii ii ii (.still λs c h=>cr3) (.inl rfl)
 go_upto_region 28 with(go_at_call 13;refine(HS _ _ cj4 (by simp[lw])).mono ?_;rintro e O ⟨s,ok,rfl,hs,l5⟩;have qH:=ag hs;clear hs)
 generalize hW:World.alloc O _=W6;obtain⟨l6,_,⟨K6,F6⟩,_⟩:=Z9 hW;clear hW;have x6:=l5.trans l6;have x0:=a3.trans x6;have x1:=a4.trans x6;have xw:=lw.trans x6;have xc:=l4.trans x6;have ae:Hid (∀{W Z:World} {f:dl} (r:nP),Cn w H wc u W->f.getD 8 undef=.pointer (some ⟨w.heap.size+1+1,0,none⟩)->f.getD 9 undef=.pointer (some ⟨w.heap.size+1+1+1,0,none⟩)->f.getD 10 undef=.bool false->Z=be0 W (w.heap.size+1+1) (w.heap.size+1+1+1) (.slice ca M.MP.length cc) (.slice wa M.ws.length wq) r->bodyPost prog Tryz.f212 (bg9 Pb C w M g o i) .ret ⟨f,[]⟩ Z):=λ{W Z f} r hc p8 p9 ah hV=>by have xW:=Fe.out.2;have a0:=d1.size;exact aZ2 (M':=M) r p8 p9 ah (.inl hV) ((hc.2.2 _ oX oX).trans (kL.heap d1 HX)) ((hc.2.2 _ oX oX).trans (kL.heap d1 HY)) oX hc.1 (λX p q=>Fc.out.Ur p) λh=>ck3
 cases ok with
 |false=>
  go_wp2;exact ae ⟨0,0,0,false,0⟩ (Cn.of dw xc) ii ii ii ii
 |true=>
  go_upto_region 30 with(go_at_call 186;refine(MF _ _).mono ?_;rintro e m ⟨mc,rfl,hs,l7⟩;have ay:=ag hs;clear hs;have z0:=x0.trans l7;have z1:=x1.trans l7;cases mc)
  .exact ae ⟨0,0,0,false,0⟩ (Cn.of dw (xc.trans l7)) ii ii ii ii
  have T0:1<=s.ch/\s.ch<=M.MP.length:=ay.out.1 sX;obtain⟨k,c,b,off,bx,bn,G,jg,d,A,rfl,cR,R,R0,v1,v2⟩:=bc0 Fc.out hF T0;clear T0;have yw:=xw.trans l7;have ax:u<wc.heap.size:=ba0 wc ⟨u,0,none⟩ (K3 wc (kb _) 0 sX);have pI:Hid (∀s' c',V.Xq o i=some s'->idx M.MP (s'.ch-1)=some c'->s'=s/\c'=c):=λs' c' h h'=>by have e:=qH.out.symm.trans h;simp only[dt,oZ]at e;subst e;exact⟨ii,mx (h'.symm.trans A.out.2.1)⟩
  have al:Hid (F.heap.size<=m.heap.size/\w.heap.size+5<=m.heap.size/\wc.heap.size<=m.heap.size/\O.heap.size<m.heap.size):=⟨z0.size,by have:=z1.size;have:=Fe.out.2;omega,(xc.trans l7).size,by have:=l6.size;have:=l7.size;simp at*;omega⟩;have UK:Hid (wc.heap.size<=O.heap.size/\O.heap.size<m.heap.size/\H.heap.size<=wc.heap.size):=⟨(l4.trans l5).size,by have:=l6.size;have:=l7.size;simp at*;omega,d1.size⟩;go_upto_region 32 with fail
  generalize hW:World.setCell (World.alloc m _) _ _=Q;obtain⟨X0,XW,X7,E5,G3,G6,E7,a2,E8,E9⟩:kL F Q/\kL w Q/\Hid (Q.heap.size=m.heap.size+1)/\Hid (Q.heap[w.heap.size+1+1+1+1]?=some (.cells #[I 1,I i,I 0,B true,I 0] 44 (0,0)))/\qf Q u #[.slice (some ⟨b,off,none⟩) M.MP.length cc,.slice a1 (V.out g M.ws).length c1]/\Hid (qf Q O.heap.size #[B s.cF,I s.ch,I s.v])/\Hid (Q.heap[m.heap.size]?=some (.cells #[I c.cap,.slice bx c.len bn,B c.pP] 219 (0,0)))/\Hid (Cn w H wc u Q)/\Hid (Q.heap[w.heap.size+1+1]?=some (.cells #[.slice none 0 0,.slice none 0 0] 129 (0,0)))/\Hid (Q.heap[w.heap.size+1+1+1]?=some (.cells #[I 0,I 0,I 0,B false,I 0] 44 (0,0))):=by subst hW;have:=UK.out;have:=Fe.out;refine⟨Gv (ah9 z0 _) ci9 _,Gv (ah9 yw _) ci9 _,by show _=_;simp[World.setCell],ms _ _ 1 _ _ _ (kL.heap (ah9 z1 _) U),((qf.later ⟨K3,F3⟩ (xc.trans l7)).alloc _).set sX oX,((qf.later ⟨K6,F6⟩ l7).alloc _).set sX oX,(fQ ci9).trans (aA4),CS _ (Cn.of dw (ah9 (xc.trans l7) _)) (.inl rfl),(fQ ci9).trans (kL.heap (ah9 z1 _) HX),(fQ ci9).trans (kL.heap (ah9 z1 _) HY)⟩
  clear hW K3 F3 K5 F5 K6 F6 K8 F8 KY FY MF K2 HS;obtain⟨K3,F3⟩:=G3;obtain⟨K5,F5⟩:=aI3 E5;obtain⟨K6,F6⟩:=G6.out;obtain⟨K7,F7⟩:=aI3 E7;obtain⟨K8,F8⟩:=aI3 E8;obtain⟨KY,FY⟩:=aI3 E9;have ao:∀W,kL Q W->kL F W:=λW h=>X0.trans h
  have aq:∀W,kL Q W->kL w W:=λW h=>XW.trans h
  rcases af:s.cF with _|_
  .by_cases h0:0<c.len
   .obtain⟨z,Y,aB⟩:∃z Y,G=z::Y:=by
     have:=A.out.2.2.1
     cases G with
     |nil=>simp at this;omega
     |cons z Y=>exact⟨z,Y,ii⟩
    subst aB;have Ay:=A.out.2.2.1;rw[sV]at Ay;obtain⟨bb,bo,cs,Uh,rfl,RZ,ar⟩:=(A.out.2.2.2.1.to2 hF).get (k:=0) (n:=1) ii;subst Uh;have RB:∀W,kL w W->W.cell? ⟨bb,bo,none⟩=some (I z):=λW h=>by simpa using ar W h
    have aN:=A.out.2.2.2.2.2
    obtain⟨bq,aC,aG⟩:∃bq,Hid (wS X8 Pb C w (some ⟨bb,bq,none⟩) Y)/\(bn=1/\bq=bo\/2<=bn/\bq=bo+1):=by
     rcases aj8 bn 2 with h|h
     .obtain rfl:Y=[]:=xn oX;exact⟨bo,⟨sX,[],⟨ii,λk x cs h=>cj5⟩,λh=>aX ii h⟩,.inl ⟨oX,ii⟩⟩
     exact⟨bo+1,wS.tail (A.out.2.2.2.1.to2 hF),.inr ⟨h,ii⟩⟩
    have cP:=ag Ay;have v3:decide (0<(c.len:Int))=true:=ci8;clear RZ ar Ay;go_upto_region 41 with fail
    generalize hW:World.setCell Q _ _=V8;obtain⟨A0,AW,A7,G5,⟨N3,O3⟩,N6,N7,aH,N8,N9⟩:kL F V8/\kL w V8/\Hid (V8.heap.size=m.heap.size+1)/\Hid (V8.heap[w.heap.size+1+1+1+1]?=some (.cells #[I 1,I i,I z,B true,I 0] 44 (0,0)))/\qf V8 u #[.slice (some ⟨b,off,none⟩) M.MP.length cc,.slice a1 (V.out g M.ws).length c1]/\Hid (qf V8 O.heap.size #[B s.cF,I s.ch,I s.v])/\Hid (V8.heap[m.heap.size]?=some (.cells #[I c.cap,.slice (some ⟨bb,bo,none⟩) c.len bn,B c.pP] 219 (0,0)))/\Hid (Cn w H wc u V8)/\Hid (V8.heap[w.heap.size+1+1]?=some (.cells #[.slice none 0 0,.slice none 0 0] 129 (0,0)))/\Hid (V8.heap[w.heap.size+1+1+1]?=some (.cells #[I 0,I 0,I 0,B false,I 0] 44 (0,0))):=by subst hW;have:=UK.out;have:=Fe.out;have:=X7.out;exact⟨Gv X0 ci9 _,Gv XW ci9 _,by show _=_;simpa[World.setCell]using X7.out,ms _ _ 2 _ _ _ E5,qf.set ⟨K3,F3⟩ sX oX,G6.out.set sX oX,(fQ ci9).trans E7,CS _ a2 (.inl rfl),(fQ ci9).trans E8,(fQ ci9).trans E9⟩
    clear K3 F3 K5 F5 K6 F6 K7 F7 K8 F8 KY FY hW ao aq;obtain⟨K7,F7⟩:=aI3 N7;have ao:∀W,kL V8 W->kL F W:=λW h=>A0.trans h
    have aq:∀W,kL V8 W->kL w W:=λW h=>AW.trans h
    rcases aG with⟨rfl,rfl⟩|⟨Hy,rfl⟩
    all_goals
     go_upto_region 42 with(refine ae2 ii λK hK=>aX5 (E:=X8) (P:=Pb) (wF:=C) (w0:=V8) (w1:=w) (xs:=[]) (ys:=Y) (.tmp 184) (.tmp 187) 57 2 rfl bu1 dX ii (by exact Own.ofE sX (aA4) cG) ii (by have:=cP.out;omega) (by exact aC) (kL.ER (by simp[AW])) (by have:=cP.out;simp;omega) λv1 Y5 U k5=>hK _ _ ?_;obtain⟨J,N,rfl⟩:=U.shape;have y5:=U.1;have SD:=ag U;clear U k5)
     have CZ:=ag (bu3 (r:=⟨1,i,z,true,0⟩) (n:=Y.length) A0 aH A7 al G5 N6 N7 (by simpa using SD.out) ii (λk d=>HP k (jm AW.size d)));have UP:Hid (V.aU2 M o i ⟨1,i,z,true,0⟩ (M.MP.set k {c with len:=Y.length})):=(by have e:=V.aU2.recv (M:=M) (o:=o) (i:=i) (r:=⟨1,i,z,true,0⟩) s c (qH.out.trans (aF trivial)) af ii ii A.out.2.1 h0;rw[V.bd8,jg,show((k:Int)+1-1).toNat=k by omega,show c.len-1=Y.length by have:=cP.out;omega]at e;exact e);generalize hV:World.setCell Y5 _ _=V9 at CZ ⊢;clear hV;have T:=CZ.out;obtain⟨M5,_⟩:=T.b5;obtain⟨M6,_⟩:=T.b6;obtain⟨M7,_⟩:=T.b7;have y0:=T.l;have yw:=T.cn.1;have xW:=Fe.out.2;have a0:=d1.size;have h7:=UK.out;have a9:=ag ((T.cn.2.2 (w.heap.size+1+1) oX oX).trans (kL.heap d1 HX));have ab:=ag ((T.cn.2.2 (w.heap.size+1+1+1) oX oX).trans (kL.heap d1 HY));clear T xW a0 h7 K7 F7;obtain⟨K8,F8⟩:=aI3 a9;obtain⟨KY,FY⟩:=aI3 ab;have s0:kL F V9.drew/\(∀q,q<5->V9.drew.cell? ⟨w.heap.size+1+1+1+1,q,none⟩=(NX ⟨1,i,z,true,0⟩)[q]?)/\(∀q,q<3->V9.drew.cell? ⟨O.heap.size,q,none⟩=(#[B s.cF,I s.ch,I s.v]:dl)[q]?)/\∀q,q<3->V9.drew.cell? ⟨m.heap.size,q,none⟩=(#[I c.cap,.slice J Y.length N,B c.pP]:dl)[q]?:=⟨m8 y0,M5 _ (m8 (kb _)),M6 _ (m8 (kb _)),M7 _ (m8 (kb _))⟩;have a8:=ag (bc6 M g k {c with len:=Y.length} _ wa J cc wq N Y (λW=>∀j,m.heap.size<j->j<V9.heap.size->W.heap[j]?=V9.heap[j]?) C V9.drew Fc (hF.trans (m8 yw)) (λk d=>HP k (jm yw.size d)) d CZ.out.z (λW h h'=>CZ.out.rd W h h') ⟨A.out.2.2.2.2.1,CZ.out.le⟩);have ad:Hid (F.heap.size<=w.heap.size+2/\w.heap.size+5<=O.heap.size/\O.heap.size<m.heap.size):=by have:=Fe.out;have:=UK.out;exact⟨oX,oX,oX⟩
     go_region_held3 (λW=>kL F W/\(∀q,q<5->W.cell? ⟨w.heap.size+1+1+1+1,q,none⟩=(NX ⟨1,i,z,true,0⟩)[q]?)/\(∀q,q<3->W.cell? ⟨O.heap.size,q,none⟩=(#[B s.cF,I s.ch,I s.v]:dl)[q]?)/\∀q,q<3->W.cell? ⟨m.heap.size,q,none⟩=(#[I c.cap,.slice J Y.length N,B c.pP]:dl)[q]?) (repeat(first|with_reducible exact s0|with_reducible exact s1|refine ba2 ?_ (by have:=ad.out;omega)))
      (first|(go_at_call 218;refine a8.out.mono ?_;rintro e w9 ⟨Vl,Jf,BT,JK,rfl,oz,l9⟩;have D:=kL.trans (m8 (kb V9)) l9;have s1:kL F w9/\(∀q,q<5->w9.cell? ⟨w.heap.size+1+1+1+1,q,none⟩=(NX ⟨1,i,z,true,0⟩)[q]?)/\(∀q,q<3->w9.cell? ⟨O.heap.size,q,none⟩=(#[B s.cF,I s.ch,I s.v]:dl)[q]?)/\∀q,q<3->w9.cell? ⟨m.heap.size,q,none⟩=(#[I c.cap,.slice J Y.length N,B c.pP]:dl)[q]?:=⟨y0.trans D,M5 _ D,M6 _ D,M7 _ D⟩;have ak:=ag oz;clear oz))
     go_wp2;have xW:=Fe.out.2;have h7:=ad.out;have aI:=CZ.out.sz;refine aZ2 (M':=⟨M.MP.set k {c with len:=Y.length},V.out g M.ws⟩) (ca:=Vl) (cc:=Jf) (wa:=BT) (wq:=JK) ⟨1,i,z,true,0⟩ ii ii ii (.inl (by simp only[kI])) (kL.heap D a9) (kL.heap D ab) oX (yw.trans D) (λX p q=>ak X ⟨p,λk d jO=>q k (by have:V9.heap.size<=k:=d;omega) jO⟩ λj h1 h2=>(q j oX (uB h2 D.size)).trans (Below.block D j h2)) λ_=>⟨ii,UP⟩
   have v3:decide (0<(c.len:Int))=false:=ci8;rcases mP:c.pP with _|_
   .go_wp2;exact ae ⟨0,0,0,false,0⟩ a2 ii ii ii ii
   go_upto_region 45 with fail
   go_region;go_wp2;exact FIN ⟨1,i,0,false,0⟩ (CS _ a2 (.inl rfl)) ii ii ii (.still λs' c' h h'=>by obtain⟨rfl,rfl⟩:=pI.out _ _ h h';rw[aE (by simp[af])];omega) (.inr rfl)
  rcases mP:c.pP with _|_
  .by_cases dD:(c.len:Int)<c.cap
   .have v3:decide ((c.len:Int)<c.cap)=true:=cw1;have Ay:G.length<1000000:=(by have:=A.out.2.2.1;have:=A.out.2.2.2.2.1;omega);go_upto_region 35 with fail
    go_cut [17]from 18 (λv wx=>v=.pointer (some ⟨m.heap.size,0,none⟩)/\∃J N,Hid (Rdy Pb C F w H wc O m u s ⟨1,i,0,true,0⟩ {c with len:=G.length+1} J N (G++[s.v]) wx))
    case first=>
     refine aW3.region (S:=λW=>kL Q W) (L:=9) kX ?_;have hS:=m8 (kb Q);refine aW3.take (i:=1) (v:= ?v1) ii kX (λ_ _ _ h=>h) kX kX kX (Or.inl ⟨co0,?NW⟩) hS ?ax2
     case NW=>(intro w0 Y;(try dsimp only at Y);go_simp;try with_reducible rfl)
     try simp only[Act.put,pu,ro,qr]
     refine aW3.take (i:=2) (v:= ?v2) ii kX (λ_ _ _ h=>h) kX kX kX (Or.inl ⟨co0,?rN⟩) hS ?ax3
     case rN=>(intro w0 Y;(try dsimp only at Y);go_simp;try with_reducible rfl)
     try simp only[Act.put,pu,ro,qr]
     refine aW3.take (i:=4) (v:= ?v4) ii kX (λ_ _ _ h=>h) kX kX kX (Or.inl ⟨co0,?hy4⟩) hS ?aG5
     case hy4=>(intro w0 Y;(try dsimp only at Y);go_simp;try with_reducible rfl)
     try simp only[Act.put,pu,ro,qr]
     refine aW3.take (i:=5) (v:= ?v5) ii kX (λ_ _ _ h=>h) kX kX kX (Or.inl ⟨co0,?hy5⟩) hS ?bF5
     case hy5=>(intro w0 Y;(try dsimp only at Y);go_simp;try with_reducible rfl)
     try simp only[Act.put,pu,ro,qr]
     repeat' first
      |(have aJ:=hK;clear aJ
        first
         |(refine aX6 ii (aX5 (E:=X8) (P:=Pb) (wF:=C) (w0:=Q) (xs:=[]) (ys:=G) (.tmp 155) (.tmp 157) 57 2 rfl bu1 dX ii (by refine Own.ofE sX ?_ sX;first|exact aA4|exact aX4|exact aW4) ii A.out.2.2.1.symm (by exact A.out.2.2.2.1) (by exact hF.trans (by simp[XW])) ci8 ?_);intro v1 Y5 U k5;obtain⟨a5,c5,rfl⟩:=U.shape;have y5:=U.1;obtain⟨Yh,a7⟩:=dA U k5;clear U k5)
         |(refine aX6 ii (aY0 (E:=X8) (P:=Pb) (wF:=C) (w0:=Q) (xs:=G) (y:=s.v) (.tmp 158) (.tmp 161) 57 2 rfl bu1 dX ii (by first|exact Yh.out.alloc _|exact Yh) ii (by first|exact aA4|(refine a7 _ _ ?_ (aX4);intro e;have:=mx e;dsimp at this;omega)|(refine a7 _ _ ?_ (aW4);intro e;have:=mx e;dsimp at this;omega)) cw9 Ay ?_);intro v2 Y6 H6 _;obtain⟨J,N,rfl⟩:=H6.shape;have y6:=H6.1;have SD:=ag H6;clear H6)
         |go_simp
        refine hK.out _ _ (λcM=>?_) ?_
        .first
          |exact aX ii cM
          |(repeat(first|with_reducible exact y6|with_reducible exact y5|with_reducible exact kb _|with_reducible refine m8 ?_|with_reducible refine ah9 ?_ _))
        clear hK K
        try simp only[Act.put,pu,ro,qr])
      |refine aW3.ready (rs:=[9]) cj9 sX (aB2.cons ii (λK hK=>?_) aB2.nil)
      |refine aW3.ready (rs:=[8]) cj9 sX (aB2.cons ii (λK hK=>?_) aB2.nil)
      |refine aW3.ready (rs:=[7]) cj9 sX (aB2.cons ii (λK hK=>?_) aB2.nil)
      |refine aW3.ready (rs:=[0,6]) cj9 sX (aB2.cons ii (λK hK=>?_) (aB2.cons ii (λK hK=>?_) aB2.nil))
      |refine aW3.ready (rs:=[3,6]) cj9 sX (aB2.cons ii (λK hK=>?_) (aB2.cons ii (λK hK=>?_) aB2.nil))
      |refine aW3.ready (rs:=[0]) cj9 sX (aB2.cons ii (λK hK=>?_) aB2.nil)
      |refine aW3.ready (rs:=[3]) cj9 sX (aB2.cons ii (λK hK=>?_) aB2.nil)
      |refine aW3.ready (rs:=[6]) cj9 sX (aB2.cons ii (λK hK=>?_) aB2.nil)
      |refine aW3.done kX ?_ _
     all_goals
      go_wp2_with fail
      go_meet;exact⟨ii,J,N,bu3 X0 a2 X7 al E5 G6 E7 (by simpa using SD.out) sX (λk d=>HP k (jm XW.size d))⟩
    obtain⟨rfl,J,N,CZ⟩:=hcut;have UP:Hid (V.aU2 M o i ⟨1,i,0,true,0⟩ (M.MP.set k {c with len:=G.length+1})):=(by have e:=V.aU2.cF (M:=M) (o:=o) (i:=i) (r:=⟨1,i,0,true,0⟩) s c (qH.out.trans (aF trivial)) af ii A.out.2.1 mP dD;rw[V.bd8,jg,show((k:Int)+1-1).toNat=k by omega,<-A.out.2.2.1]at e;exact e);clear mP;go_upto_region 36 with fail
    have T:=CZ.out;obtain⟨M5,_⟩:=T.b5;obtain⟨M6,_⟩:=T.b6;obtain⟨M7,_⟩:=T.b7;have y0:=T.l;have yw:=T.cn.1;have xW:=Fe.out.2;have a0:=d1.size;have h7:=UK.out;have a9:=ag ((T.cn.2.2 (w.heap.size+1+1) oX oX).trans (kL.heap d1 HX));have ab:=ag ((T.cn.2.2 (w.heap.size+1+1+1) oX oX).trans (kL.heap d1 HY));clear T xW a0 h7 K5 F5 K6 F6 K7 F7 K8 F8 KY FY;obtain⟨K8,F8⟩:=aI3 a9;obtain⟨KY,FY⟩:=aI3 ab;have s0:kL F wc.drew/\(∀q,q<5->wc.drew.cell? ⟨w.heap.size+1+1+1+1,q,none⟩=(NX ⟨1,i,0,true,0⟩)[q]?)/\(∀q,q<3->wc.drew.cell? ⟨O.heap.size,q,none⟩=(#[B s.cF,I s.ch,I s.v]:dl)[q]?)/\∀q,q<3->wc.drew.cell? ⟨m.heap.size,q,none⟩=(#[I c.cap,.slice J (G.length+1) N,B c.pP]:dl)[q]?:=⟨m8 y0,M5 _ (m8 (kb _)),M6 _ (m8 (kb _)),M7 _ (m8 (kb _))⟩;have a8:=ag (bc6 M g k {c with len:=G.length+1} _ wa J cc wq N (G++[s.v]) (λW=>∀j,m.heap.size<j->j<wc.heap.size->W.heap[j]?=wc.heap[j]?) C wc.drew Fc (hF.trans (m8 yw)) (λk d=>HP k (jm yw.size d)) d CZ.out.z (λW h h'=>CZ.out.rd W h h') ⟨A.out.2.2.2.2.1,CZ.out.le⟩);have ad:Hid (F.heap.size<=w.heap.size+2/\w.heap.size+5<=O.heap.size/\O.heap.size<m.heap.size):=by have:=Fe.out;have:=UK.out;exact⟨oX,oX,oX⟩
    go_region_held3 (λW=>kL F W/\(∀q,q<5->W.cell? ⟨w.heap.size+1+1+1+1,q,none⟩=(NX ⟨1,i,0,true,0⟩)[q]?)/\(∀q,q<3->W.cell? ⟨O.heap.size,q,none⟩=(#[B s.cF,I s.ch,I s.v]:dl)[q]?)/\∀q,q<3->W.cell? ⟨m.heap.size,q,none⟩=(#[I c.cap,.slice J (G.length+1) N,B c.pP]:dl)[q]?) (repeat(first|with_reducible exact s0|with_reducible exact s1|refine ba2 ?_ (by have:=ad.out;omega)))
     (first|(go_at_call 218;refine a8.out.mono ?_;rintro e w9 ⟨Vl,Jf,BT,JK,rfl,oz,l9⟩;have D:=kL.trans (m8 (kb wc)) l9;have s1:kL F w9/\(∀q,q<5->w9.cell? ⟨w.heap.size+1+1+1+1,q,none⟩=(NX ⟨1,i,0,true,0⟩)[q]?)/\(∀q,q<3->w9.cell? ⟨O.heap.size,q,none⟩=(#[B s.cF,I s.ch,I s.v]:dl)[q]?)/\∀q,q<3->w9.cell? ⟨m.heap.size,q,none⟩=(#[I c.cap,.slice J (G.length+1) N,B c.pP]:dl)[q]?:=⟨y0.trans D,M5 _ D,M6 _ D,M7 _ D⟩;have ak:=ag oz;clear oz))
    go_wp2;have xW:=Fe.out.2;have h7:=ad.out;have aI:=CZ.out.sz;refine aZ2 (M':=⟨M.MP.set k {c with len:=G.length+1},V.out g M.ws⟩) (ca:=Vl) (cc:=Jf) (wa:=BT) (wq:=JK) ⟨1,i,0,true,0⟩ ii ii ii (.inl (by simp only[kI])) (kL.heap D a9) (kL.heap D ab) oX (yw.trans D) (λX p q=>ak X ⟨p,λk d jO=>q k (by have:wc.heap.size<=k:=d;omega) jO⟩ λj h1 h2=>(q j oX (uB h2 D.size)).trans (Below.block D j h2)) λ_=>⟨ii,UP⟩
   have v3:decide ((c.len:Int)<c.cap)=false:=cw1;go_wp2;exact ae ⟨0,0,0,false,0⟩ a2 ii ii ii ii
  go_wp2;exact FIN ⟨3,i,0,false,0⟩ a2 ii ii ii (.still λs' c' h h'=>by obtain⟨rfl,rfl⟩:=pI.out _ _ h h';rw[aF af];exact mP) (.inl rfl)