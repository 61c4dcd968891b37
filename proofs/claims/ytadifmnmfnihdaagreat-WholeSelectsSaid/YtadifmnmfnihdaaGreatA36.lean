import Derived.Test.YtadifmnmfnihdaaGreatA34
import Derived.Test.YtadifmnmfnihdaaGreatA35
set_option linter.all false
set_option maxRecDepth 100000
set_option maxHeartbeats 40000000
namespace Go.Proofs.YtadifmnmfnihdaaGreat
open Go.RowKit Mach Go.Proofs.Tryz
def okB(p:List (List cu))(x y:Int)(nd np:Nat):Bool:=im p&&nK x p.length y&&decide (nd≤300)&&decide (np≤300)
theorem Uk(p:List (List cu))(x y:Int)(nd np:Nat):okB p x y nd np=(decide (jR p x y=0)&&decide (p.length≤8)&&decide (nd≤300)&&decide (np≤300)):=by
 unfold okB jR
 cases hp:im p<;>cases hc:nK x p.length y<;>simp;have:=(kH hp).1;simp[this.2]
theorem Rc(p:List (List cu))(n:Nat)(hn:n=p.length)(a:Option Addr)(ca:Nat)(x y:Int)(da:Option Addr)(nd cd:Nat)(pa:Option Addr)(np pc:Nat)(fX:nd≤9223372036854775807)(Fb:np≤9223372036854775807)(w:World)(h1:eW w a p):Calls prog 8 #[.agg #[.slice a n ca,I x,I y,.slice da nd cd],.slice pa np pc] w (eL (.bool (okB p x y nd np)) (Below w.heap.size w)):=by
 have hsz:n≤9223372036854775807:=by rw[hn];exact h1.1
 have HK:=ag (Uk p x y nd np);have HN:=ag hn;have HC:=ag (fun W (hb:Below w.heap.size w W)=>GP p n hn a ca x y da nd cd W (h1.below hb cG));have HB:Hid (Below w.heap.size w (w.alloc (.cells #[.slice a n ca,I x,I y,.slice da nd cd] 27))):=(fp _ _).alloc cG _;have wH:Hid ((w.alloc (.cells #[.slice a n ca,I x,I y,.slice da nd cd] 27)).heap[w.heap.size]?=some (.cells #[.slice a n ca,I x,I y,.slice da nd cd] 27 (0,0))):=dP _ _;obtain⟨r,hr⟩:=dC (jR p x y);have HRC:=ag hr;rw[←hr]at HC HK;clear h1 hn hr;go_enter func8,ntmps8
 go_upto_region 2 with(first
  |(go_at_call 24;refine(HC.out _ HB.out).mono ?_;rintro e w1 ⟨cs,fa,uY,rfl,hb⟩;have c0:w1.heap[w.heap.size]?=some (.cells #[.slice a n ca,I x,I y,.slice da nd cd] 27 (0,0)):=((hb.block _ (by simp)).trans wH.out);have dD:w.heap.size<w1.heap.size:=(by have:=hb.size;simp at this;omega);have BJ:=ag (dO fa (dO uY (dO dD (dO c0 (HB.out.trans (hb.mono (by simp)))))));clear hb fa uY dD c0)
  |(refine cB rfl 41 (.tmp 5) (.tmp 15) rfl w1.heap.size 0 cs rfl rfl (by rw[BJ.out.1];exact jB) (fun q hq=>by rw[Nat.zero_add,cr _ _ _ _ _ _ (dP _ _),xL (show q<12 by rw[BJ.out.1]at hq;exact hq)];rfl) (fun q hq=>iM _ _ _ _ _ (dP _ _)) BJ.out.2.1 ?_))
 generalize nt:(World.setCells _ _ _ _)=w2;have mz:w2.heap[w.heap.size]?=some (.cells #[.slice a n ca,I x,I y,.slice da nd cd] 27 (0,0)):=by rw[←nt,iq (by have:=BJ.out.2.2.1;omega),gf _ _ _ BJ.out.2.2.1];exact BJ.out.2.2.2.1
 have RU:Hid (Below w.heap.size w w2):=by rw[←nt];exact Below.setCells (Nat.le_of_lt BJ.out.2.2.1) _ _ _ (BJ.out.2.2.2.2.alloc (Nat.le_of_lt BJ.out.2.2.1) _)
 have c0:w2.cell? ⟨w.heap.size,0,none⟩=some (.slice a n ca):=by rw[cr _ _ _ _ _ _ mz];rfl
 have c3:w2.cell? ⟨w.heap.size,3,none⟩=some (.slice da nd cd):=by rw[cr _ _ _ _ _ _ mz];rfl
 clear nt mz HC HB wH;by_cases k1:r=0
 ·by_cases k2:n≤8
  ·by_cases k3:nd≤300
   ·by_cases k4:np≤300
    ·go_wp2;go_ret;refine⟨?_,RU.out⟩;rw[HK.out,←HN.out];simp[k1,k2,k3,k4];omega
    ·go_wp2;go_ret;refine⟨?_,RU.out⟩;rw[HK.out,←HN.out];simp[k4];omega
   ·go_wp2;go_ret;refine⟨?_,RU.out⟩;rw[HK.out,←HN.out];simp[k3]
  ·go_wp2;go_ret;refine⟨?_,RU.out⟩;rw[HK.out,←HN.out];simp[k2]
 ·go_wp2;go_ret;refine⟨?_,RU.out⟩;rw[HK.out,←HN.out];simp[k1]
theorem Eb(p:List (List cu))(n:Nat)(hn:n=p.length)(a:Option Addr)(ca:Nat)(x y:Int)(draws:List Int)(da:Option Addr)(nd cd:Nat)(fX:nd=draws.length)(pa:Option Addr)(np pc:Nat)(Dx:nd≤9223372036854775807)(Fb:np≤9223372036854775807)(w:World)(h1:eW w a p)(hd:nd≤300→Rd .u16 w da draws)(hr:∀z∈draws,0≤z∧z≤65535):Calls prog 7 #[.agg #[.slice a n ca,I x,I y,.slice da nd cd],.slice pa np pc] w fun e w'=>Below w.heap.size w w'∧((okB p x y nd np=false∧e=.returned (.tuple #[.pointer none,.bool false]))∨(okB p x y nd np=true∧∃N most F m eb af,x=(N:Nat)∧y=(most:Nat)∧nK N n most=true∧im p=true∧e=.returned (.tuple #[.pointer (some ⟨eb,0,none⟩),.bool true])∧w.heap.size≤af∧bz af F w' m (V.gj p N most draws)∧w'.heap[eb]?=some (.cells #[.pointer (some ⟨F.al,0,none⟩)] 78 (0,0))∧w.heap.size≤eb∧∀r,m.aV r≠some eb)):=by
 have hsz:n≤9223372036854775807:=by rw[hn];exact h1.1
 have HN:=ag hn
 have HP8:Hid (n> 8→im p=false):=fun h=>by
  cases hp:im p with
  |false=>rfl
  |true=>have:=(kH hp).1;omega
 have HB:Hid (Below w.heap.size w (w.alloc (.cells #[.slice a n ca,I x,I y,.slice da nd cd] 27))):=(fp _ _).alloc cG _;have wH:Hid ((w.alloc (.cells #[.slice a n ca,I x,I y,.slice da nd cd] 27)).heap[w.heap.size]?=some (.cells #[.slice a n ca,I x,I y,.slice da nd cd] 27 (0,0))):=dP _ _;have lP:Hid (okB p x y nd np=(im p&&nK x n y&&decide (nd≤300)&&decide (np≤300))):=by show okB p x y nd np=_;unfold okB;rw[hn]
 have HR:=ag (Ad p n hn a ca _ (h1.below HB.out cG));have HNO:=ag (fun W (hb:Below w.heap.size w W) hp gI=>M6 p n hn a ca x y da nd cd W (h1.below hb cG) hp gI);have Xi:=ag (fun W (hb:Below w.heap.size w W) hp N most gI h3=>Ai p n hn a ca N most draws nd fX da cd W (h1.below hb cG) hp gI ((hd h3).below hb cG) h3 hr);clear h1 hd hr hn fX;go_enter func7,ntmps7;go_upto_region 1 with fail
 generalize tY:w.alloc (.cells #[.slice a n ca,I x,I y,.slice da nd cd] 27)=wA at*;have c0:wA.cell? ⟨w.heap.size,0,none⟩=some (.slice a n ca):=by rw[cr _ _ _ _ _ _ wH.out];rfl
 have c3:wA.cell? ⟨w.heap.size,3,none⟩=some (.slice da nd cd):=by rw[cr _ _ _ _ _ _ wH.out];rfl
 have ag8:w.heap.size<wA.heap.size:=by rw[←tY];simp
 have XO:=ag ag8;clear tY ag8;by_cases k2:n> 8
 ·go_wp2;go_ret2;exact⟨HB.out,.inl ⟨by rw[lP.out,HP8.out k2];rfl,rfl⟩⟩
 ·by_cases k3:nd> 300
  ·go_wp2;go_ret2
   exact⟨HB.out,.inl ⟨by
               rw[lP.out];have:¬nd≤300:=by omega
               simp[this],rfl⟩⟩
  ·by_cases k4:np> 300
   ·go_wp2;go_ret2
    exact⟨HB.out,.inl ⟨by
                rw[lP.out];have:¬np≤300:=by omega
                simp[this],rfl⟩⟩
   ·cases hp:im p with
    |false=>
     rw[hp]at HR lP;go_wp2_with (go_at_call 22;refine HR.out.mono ?_;rintro e w1 ⟨rfl,hb⟩;have pH:=ag (HB.out.trans (hb.mono (Nat.le_of_lt XO.out)));clear hb);go_ret2;exact⟨pH.out,.inl ⟨by rw[lP.out];rfl,rfl⟩⟩
    |true=>
     rw[hp]at HR lP;have ARM:Hid (∀W,Below wA.heap.size wA W→W.cell? ⟨w.heap.size,0,none⟩=some (.slice a n ca)∧W.cell? ⟨w.heap.size,1,none⟩=some (I x)∧W.cell? ⟨w.heap.size,2,none⟩=some (I y)∧W.cell? ⟨w.heap.size,3,none⟩=some (.slice da nd cd)∧Below w.heap.size w W):=fun W hb=>by have e:=(hb.block _ XO.out).trans wH.out;refine⟨?_,?_,?_,?_,HB.out.trans (hb.mono (Nat.le_of_lt XO.out))⟩<;>(rw[cr _ _ _ _ _ _ e];rfl)
     have h3:nd≤300:=(by omega);have h4:np≤300:=by omega
     cases gI:nK x n y with
     |false=>
      have av2:=ag (fun W hb=>HNO.out W hb hp gI);rw[gI]at lP;clear HNO Xi hp gI
      go_wp2_with (first
       |(go_at_call 22;refine HR.out.mono ?_;rintro e w1 ⟨rfl,hb⟩;obtain⟨d0,d1,d2,d3,gq⟩:=ARM.out _ hb;have pH:=ag gq;clear hb gq)
       |(go_at_call 23;refine(av2.out _ pH.out).mono ?_;rintro e w2 ⟨rfl,hb⟩;have mq:=ag (pH.out.trans (hb.mono pH.out.size));clear hb))
      go_ret2;exact⟨mq.out,.inl ⟨by rw[lP.out];rfl,rfl⟩⟩
     |true=>
      have hc:=gI;unfold nK at hc;simp only[qs,decide_eq_true_eq]at hc;obtain⟨N,rfl⟩:∃N:Nat,x=N:=⟨x.toNat,by omega⟩;obtain⟨most,rfl⟩:∃N:Nat,y=N:=⟨y.toNat,by omega⟩;have HY:=ag (fun W hb=>Xi.out W hb hp N most gI h3);have UP:=ag (dO gI hp);rw[gI]at lP;clear HNO Xi hp gI hc
      go_wp2_with (first
       |(go_at_call 22;refine HR.out.mono ?_;rintro e w1 ⟨rfl,hb⟩;obtain⟨d0,d1,d2,d3,gq⟩:=ARM.out _ hb;have pH:=ag gq;clear hb gq)
       |(go_at_call 23;refine(HY.out _ pH.out).mono ?_;rintro e w2 ⟨F,m,eb,rfl,R,hb,heb,hle,cM⟩;have mq:=ag (pH.out.trans (hb.mono pH.out.size));have Bg:=ag (dO R (dO heb (dO hle cM)));clear hb R heb hle cM))
      go_ret2;obtain⟨R,heb,hle,cM⟩:=Bg.out;have hs:=pH.out.size;exact⟨mq.out,.inr ⟨by rw[lP.out];simp[h3,h4],N,most,F,m,eb,_,rfl,rfl,UP.out.1,UP.out.2,rfl,by omega,R,heb,by omega,cM⟩⟩
end Go.Proofs.YtadifmnmfnihdaaGreat
namespace Go.Proofs.YtadifmnmfnihdaaGreat.V
open Mach
theorem Ul{S S':Wd}{g:Nat}(h:uj S g S')(ho:∀o,mf S g=some o→o.cases.length≤8)(hs:Sh (S.gs,S.draws)):Sh (S'.gs,S'.draws):=by
 rcases h with h|⟨x,o,_,_,_,h⟩
 ·exact DY ho h hs
 ·rcases h with⟨_,h⟩|⟨_,h⟩|⟨_,h⟩|⟨_,h⟩
  ·exact Gt h hs
  ·exact Gu h hs
  ·exact Gv h hs
  ·exact Bo ho h hs
theorem JM{S:Wd}{ls:List (List Nat)}(I:Inv S ls)(n:Int)(g:Nat):∀o,mf {S with av:=n} g=some o→o.cases.length≤8:=by
 intro o h;unfold mf at h;split at h
 ·cases h;unfold dH;show((S.gs[g]?.bind fun x=>idx x.ops x.at_).getD {}).cases.length≤8
  cases hx:S.gs[g]? with
  |none=>simp
  |some x=>
   simp only[eN];unfold idx;split
   ·cases hi:x.ops[x.at_.toNat]? with
    |none=>simp
    |some o=>
     have:=((I.loc g x hx).ops o (lf hi)).cl;show o.cases.length≤8;omega
   ·simp
 ·cases h
def xK(p:List (List cu))(draws:List Int)(k:Nat)(S:Wd):Prop:=Row p draws k S∧Sh (S.gs,S.draws)
section
variable{S S':Wd}{g k:Nat}{p:List (List cu)}{draws:List Int}
theorem xK.next(R:xK p draws k S)(hd:draws.length≤100000)(hk:k<900000)(hr:bU S.ax g=0):∃S',uj {S with av:=S.av+1} g S'∧xK p draws (k+1) S':=by
 obtain⟨S',h1,h2⟩:=R.1.next hd hk hr;obtain⟨ls,I⟩:=R.1.inv;exact⟨S',h1,h2,Ul h1 (JM I _ g) R.2⟩
theorem wI(P:z8 p){N:Nat}(hN:N≤64){most:Int}(hm:1≤most∧most≤16)(draws:List Int)(hd:draws.length≤1000):xK p draws 0 (gj p N most draws):=by
 refine⟨GH P hN hm draws,fun x hx=>?_,hd⟩;obtain⟨l,_,rfl⟩:=List.mem_map.1 hx;exact jE
theorem Vh(p:List (List cu))(draws:List Int)(hl:draws.length≤100000)(hd:∀v∈draws,0≤v∧v≤65535):T6 900000 (xK p draws):=by
 have G:=au9 p draws hl hd;exact⟨fun k S R=>G.ax k S R.1,fun k S R=>G.av k S R.1,fun k S g R h=>G.who k S g R.1 h,fun k S g R h1 h2=>G.aG k S g R.1 h1 h2⟩
theorem xK.Um(R:xK p draws k S)(hp:∀l∈p,CY l)(hk:k≤900000):∃ls,Go.Proofs.YtadifmnmfnihdaaGreat.tc S ls:=by
 obtain⟨R,hs⟩:=R;obtain⟨ls,I⟩:=R.inv;have h8:=I.n8;refine⟨ls,I.JZ,?_,hs.2,by have:=R.len;omega,by omega,fun j x hx=>?_,I.ar.aC,fun j x hx=>?_,I.c8,I.au,I.aO,I.q,I.bM,fun l hl=>?_,by have:=I.aS;have:=I.JZ;omega⟩
 ·have:=I.ar.ok.ml;omega
 ·have h1:=hs.1 x (lf hx);have ho:x.ops∈p:=by rw[←R.ops];exact List.mem_map.2 ⟨x,lf hx,rfl⟩
  refine⟨hp _ ho,jm h1.1 (by omega),jm h1.2.1 (by omega),jm h1.2.2 (by omega),by have:=GF I hx;omega⟩
 ·have h1:=I.ar.most x (lf hx);have:=I.ar.ok.cl x (lf hx);omega
 ·obtain⟨k2,jO⟩:=List.getElem?_of_mem hl;have:=jy 64 l (I.q.nodup k2 l jO) (fun y hy=>by obtain⟨a,b,rfl⟩:=List.append_of_mem hy;have h1:=(uC (I.q.thing k2 a b y jO)).1;have:=I.aS;have:=I.JZ;omega);omega
end
end Go.Proofs.YtadifmnmfnihdaaGreat.V
namespace Go.Proofs.YtadifmnmfnihdaaGreat
open Go.RowKit Go.Maps Go.ChangeMaps Mach Go.Proofs.Tryz
theorem jh.other{w w':World}{b n:Nat}{f:Int→Int}(h:jh w b n f)(hb:w'.heap[b]?=w.heap[b]?):jh w' b n f:=by
 obtain⟨D,⟨es,clock,h1,r⟩,hf⟩:=h;exact⟨D,⟨es,clock,hb.trans h1,r⟩,hf⟩
theorem fH.other{w w':World}{s b1 b2 n1 n2:Nat}{f1 f2:Int→Int}(h:fH w s b1 b2 n1 n2 f1 f2)(h1:w'.heap[s]?=w.heap[s]?)(h2:w'.heap[b1]?=w.heap[b1]?)(h3:w'.heap[b2]?=w.heap[b2]?):fH w' s b1 b2 n1 n2 f1 f2:=
 ⟨h1.trans h.aV,h.m1.other h2,h.m2.other h3,h.Km,h.Nu,h.ne⟩
theorem wJ{w w':World}{B e size n:Nat}{v:Value}{xs:List Value}(h:w.ownsRow B e size v n xs)(hb:∀g,v.ownBlock=some g→w'.heap[g]?=w.heap[g]?):w'.ownsRow B e size v n xs:=by
 refine⟨h.1,?_⟩;rcases h.2 with h1|⟨g,cap,cur,h1,h2,h3,h4⟩
 ·exact .inl h1
 ·exact .inr ⟨g,cap,cur,h1,h2,(hb g (by rw[h1];rfl)).trans h3,h4⟩
theorem Rd.other{w w':World}{b off:Nat}{zs:List Int}(h:Rd .i64 w (some ⟨b,off,none⟩) zs)(hb:w'.heap[b]?=w.heap[b]?):Rd .i64 w' (some ⟨b,off,none⟩) zs:=by
 refine⟨h.1,fun h0=>?_⟩;obtain⟨b',VK,e,hc⟩:=h.2 h0
 cases e;exact⟨b,off,rfl,fun j hj=>by rw[kZ (w:=w) (a:=⟨b,off+j,none⟩) hb];exact hc j hj⟩
def Dv(af:Nat)(F:Fx)(m0:Mem)(w0:World)(eb:Nat)(LE:List (Nat×Obj))(bs:List Nat)(w:World)(S:Wd):Prop:=
 ∃m,jS F eb LE∧AB af F m0 w0 m w S LE∧∀k∈bs,w0.heap.size≤k∧k<w.heap.size∧(∀r,m.aV r≠some k)∧∀p∈LE,p.1≠k
section
variable{af eb:Nat}{F:Fx}{m0:Mem}{w0 w w':World}{bs bs':List Nat}{S S':Wd}{LE:List (Nat×Obj)}
theorem Dv.call(D:Dv af F m0 w0 eb LE bs w S){f:Nat}{args:Array Value}{v:Value}(h:∀m0 w0 m L,AB af F m0 w0 m w S L→jS F eb L→Calls prog f args w fun e w'=>e=.returned v∧TB af F m0 w0 S' L w'):Calls prog f args w fun e w'=>e=.returned v∧Dv af F m0 w0 eb LE bs w' S'∧(∀k∈bs,w'.heap[k]?=w.heap[k]?)∧w.heap.size≤w'.heap.size:=by
 obtain⟨m,h1,h2,h3⟩:=D;have ks:∀k∈bs,∃o,w.heap[k]?=some o:=fun k hk=>⟨_,xL (h3 k hk).2.1⟩
 have hX:AB af F m0 w0 m w S (LE++bs.filterMap fun k=>(w.heap[k]?).map fun o=>(k,o)):=by
  refine⟨h2.at_,fun p hp=>?_⟩;rcases List.mem_append.1 hp with hp|hp
  ·exact h2.loc p hp
  ·obtain⟨k,hk,e⟩:=List.mem_filterMap.1 hp;obtain⟨o,ho,rfl⟩:=me.1 e;exact⟨ho,(h3 k hk).2.2.1⟩
 have hE:jS F eb (LE++bs.filterMap fun k=>(w.heap[k]?).map fun o=>(k,o)):=List.mem_append_left _ h1;have hX0:AB af F m w m w S (LE++bs.filterMap fun k=>(w.heap[k]?).map fun o=>(k,o)):=⟨At.refl h2.bj,hX.loc⟩;refine(h m w m _ hX0 hE).mono ?_;rintro e w' ⟨he,m',X0'⟩;have X':=hX.av X0'.at_;have fD:∀k∈bs,∀o,w.heap[k]?=some o→(k,o)∈LE++bs.filterMap fun k=>(w.heap[k]?).map fun o=>(k,o):=fun k hk o ho=>List.mem_append_right _ (List.mem_filterMap.2 ⟨k,hk,by rw[ho];rfl⟩)
 have nV:∀k∈bs,w'.heap[k]?=w.heap[k]?:=fun k hk=>by obtain⟨o,ho⟩:=ks k hk;rw[(X'.loc _ (fD k hk o ho)).1,ho]
 refine⟨he,⟨m',h1,X'.less (fun p hp=>List.mem_append_left _ hp),fun k hk=>?_⟩,nV,?_⟩
 ·obtain⟨o,ho⟩:=ks k hk;refine⟨(h3 k hk).1,?_,(X'.loc _ (fD k hk o ho)).2,(h3 k hk).2.2.2⟩;have:=nV k hk;rw[ho]at this;exact(dh this).1
 ·exact X0'.at_.mv.size
theorem Dv.look(D:Dv af F m0 w0 eb LE bs w S):∃m L,jS F eb L∧AB af F m0 w0 m w S L:=by
 obtain⟨m,h1,h2,_⟩:=D;exact⟨m,LE,h1,h2⟩
theorem Dv.tb(D:Dv af F m0 w0 eb LE bs w S):TB af F m0 w0 S LE w:=by
 obtain⟨m,h1,h2,_⟩:=D;exact⟨m,h2⟩
theorem Dv.mn(D:Dv af F m0 w0 eb LE bs w S)(ho:w'.os=w.os)(ht:w'.tape=w.tape)(hu:w'.output=w.output)(hsz:w.heap.size≤w'.heap.size)(hk:∀k,k<w.heap.size→k ∉ bs→w'.heap[k]?=w.heap[k]?)(hb:∀k∈bs',k∈bs∨w.heap.size≤k∧k<w'.heap.size):Dv af F m0 w0 eb LE bs' w' S:=by
 obtain⟨m,h1,h2,h3⟩:=D;have dD:∀p∈LE,p.1<w.heap.size:=fun p hp=>(dh (h2.loc p hp).1).1
 refine⟨m,h1,⟨⟨⟨ho.trans h2.at_.mv.os,ht.trans h2.at_.mv.tape,hu.trans h2.at_.mv.output,jm h2.at_.mv.size hsz,fun b hb hn=>?_,h2.at_.mv.old⟩,h2.bj.heap fun r b hb=>hk b (h2.bj.lt hb) (fun e=>(h3 b e).2.2.1 r hb)⟩,fun p hp=>⟨?_,(h2.loc p hp).2⟩⟩,fun k hkb=>?_⟩
 ·rw[hk b (uB hb h2.at_.mv.size) (fun e=>by have:=(h3 b e).1;omega)];exact h2.at_.mv.keep b hb hn
 ·rw[hk p.1 (dD p hp) (fun e=>(h3 _ e).2.2.2 p hp rfl)];exact(h2.loc p hp).1
 ·rcases hb k hkb with hb|hb
  ·obtain⟨q1,q2,q3,q4⟩:=h3 k hb;exact⟨q1,by omega,q3,q4⟩
  ·exact⟨by have:=h2.at_.mv.size;omega,hb.2,fun r e=>aX (h2.bj.lt e) (by omega),fun p hp e=>by have:=dD p hp;omega⟩
end
def qZ(f:Int→Int)(run:List Int)(k:Int)(n:Nat):Int:=if k≤f (qV f (run.getD 0 0) run)+n then qV f (run.getD 0 0) run else pA run 0
structure Re(Q:Nat→Wd→(Int→Int)→Prop)(k:Int)(n most:Nat):Prop where
 ax:∀j S f,Q j S f→S.ax.length≤20
 av:∀j S f,Q j S f→ -1000000000≤S.av∧S.av≤1000000000
 who:∀j S f g,Q j S f→g∈cE S.ax→∃i:Nat,g=i∧bU S.ax g=0
 aG:∀j S f (g:Nat),Q j S f→j<most→bU S.ax g=0→Cp {S with av:=S.av+1} g
 gs:∀j S f,Q j S f→S.gs.length=n
 age:∀j S f,Q j S f→∀g,0≤f g∧f g≤1000000
 next:∀j S f,Q j S f→j<most→cE S.ax≠[]→∀g:Nat,qZ f (cE S.ax) k n=g→∃S',uj {S with av:=S.av+1} g S'∧Q (j+1) S' (iC g (cE S.ax) f)
theorem Xj:(prog.info? 83).map (fun i=>(i.zero,i.size,i.bytes))=some (some (.agg #[I 0,.slice none 0 0]),2,32):=by kernel_rfl
structure Rf(af:Nat)(F:Fx)(m0:Mem)(w0:World)(eb:Nat)(LE:List (Nat×Obj))(Q:Nat→Wd→(Int→Int)→Prop)(w wr:World)(s j:Nat)(la:Option Addr)(lc:Nat)(S:Wd)(f g2:Int→Int)(b1 b2 n1 n2:Nat)(lb:Option Nat)(cs:List Value):Prop where
 q:Q j S f
 Bt:fH wr s b1 b2 n1 n2 f g2
 row:wr.ownsRow w.heap.size 83 2 (.slice la j lc) j cs
 la_:(Value.slice la j lc).ownBlock=lb
 dv:Dv af F m0 w0 eb LE (s::b1::b2::lb.toList) wr S
 le:w.heap.size≤s∧w.heap.size≤b1∧w.heap.size≤b2∧w.heap.size≤wr.heap.size
 ne:∀b,lb=some b→b≠s∧b≠b1∧b≠b2
theorem JN{af eb:Nat}{F:Fx}{m0:Mem}{w0 w:World}{L:List (Nat×Obj)}{S0:Wd}{Q:Nat→Wd→(Int→Int)→Prop}{k:Int}{n most:Nat}(G:Re Q k n most)(T:TB af F m0 w0 S0 L w)(he:jS F eb L)(hQ:Q 0 S0 (fun _=>0))(hk:0≤k∧k≤1000000)(hn:n≤1000)(hm:most≤900000)(pc:Nat):Calls prog 11 #[.pointer (some ⟨eb,0,none⟩),.slice none 0 0,I k,I most] w fun e w'=>∃la j lc S f,Q j S f∧(cE S.ax=[]∨j=most)∧e=.returned (.tuple #[.slice la j lc,.bool (decide (cE S.ax=[]))])∧TB af F m0 w0 S L w':=by
 obtain⟨i0,hi,fV,gF,gG⟩:=info_parts Xj;have HD0:Hid (Dv af F m0 w0 eb L [] w S0):=by obtain⟨m,X⟩:=T;exact⟨m,he,X,fun k h=>by cases h⟩
 have HNA:=ag (DU w);obtain⟨HG,HQ⟩:=dA G hQ;clear G hQ;go_enter func11,ntmps11;go_wp2_with (go_at_call 27;refine HNA.out.mono ?_;rintro e w1 ⟨s,b1,b2,rfl,hA,hB,h1,h2,h3⟩;have pI:Hid (∃S f g2 b1 b2 n1 n2 lb cs,Rf af F m0 w0 eb L Q w w1 s 0 none 0 S f g2 b1 b2 n1 n2 lb cs):=⟨S0,_,_,b1,b2,0,0,none,[],HQ.out,hA,World.ownsRow_nil _ _ _ _,rfl,HD0.out.mn hB.os hB.tape hB.output hB.size (fun k hk _=>hB.block k hk) (fun k hk=>by(simp at hk;rcases hk with rfl|rfl|rfl;exact .inr ⟨h1,hA.lt⟩;exact .inr ⟨h2,hA.m1.lt⟩;exact .inr ⟨h3,hA.m2.lt⟩)),⟨h1,h2,h3,hB.size⟩,fun b h=>by cases h⟩;clear hA hB h1 h2 h3);go_loopw [12] (fun l wr=>∃(j:Nat) (la:Option Addr) (lc:Nat),l=.slice la j lc∧j≤most∧Hid (∃S f g2 b1 b2 n1 n2 lb cs,Rf af F m0 w0 eb L Q w wr s j la lc S f g2 b1 b2 n1 n2 lb cs)) (fun l _=>most-(match l with| .slice _ j _=>j|_=>0))
 case atStart=>exact⟨0,none,0,rfl,by omega,pI⟩
 case round=>
  clear pI HD0 HNA HQ;obtain⟨j,la,lc,rfl,hj,HS⟩:=hrel;obtain⟨S,f,g2,c1,c2,n1,n2,lb,cs,D⟩:=HS.out;obtain⟨m,L2,hE,X⟩:=D.dv.look;have GQ:=ag (pT X hE (by have:=HG.out.ax j S f D.q;omega));obtain⟨run,ta⟩:=dC (cE S.ax);rw[←ta]at GQ;have HD:=ag D;have RV:=ag ta;clear D X hE HS ta;have hrl:run.length≤20:=by have h1:=HG.out.ax j S f HD.out.q;have h2:=xg S.ax 0;rw[RV.out];unfold cE;omega
  obtain⟨ml,UR⟩:=dC (run.length);rw[←UR]at hrl;have G8:=ag UR;clear UR;by_cases dD:j<most
  ·by_cases tS:run=[]
   ·have av3:ml=0:=(by rw[G8.out,tS];rfl);have Ap:=ag tS;subst av3;go_upto_region 6 with(go_at_call 28;refine GQ.out.mono ?_;rintro e w2 ⟨v,rfl,ho,hb⟩;obtain⟨ra,rc,rfl,jF⟩:=ho.rd (by rw[←G8.out];omega);rw[←G8.out];have mq:=ag hb;clear ho hb jF)
    clear tS;go_wp2;go_ret2;refine⟨la,j,lc,S,f,HD.out.q,.inl (by rw[←RV.out];exact Ap.out),by rw[←RV.out,Ap.out];rfl,?_⟩;exact(HD.out.dv.mn (bs':=[]) mq.out.os mq.out.tape mq.out.output mq.out.size (fun k hk _=>mq.out.block k hk) (fun k h=>by cases h)).tb
   ·have ag9:0<ml:=(by rw[G8.out];exact pd tS);go_upto_region 9 with(go_at_call 28;refine GQ.out.mono ?_;rintro e w2 ⟨v,rfl,ho,hb⟩;obtain⟨ra,rc,rfl,jF⟩:=ho.rd (by rw[←G8.out];omega);rw[←G8.out];obtain⟨mq,HO,CZ⟩:=ij hb ho jF;clear ho hb jF)
    obtain⟨rb,Yo,aB7,aB8⟩:∃rb,ra=some ⟨rb,0,none⟩∧wr.heap.size≤rb∧rb<w2.heap.size:=by
     have ho:=HO.out;unfold yv at ho;rcases ho.2 with⟨_,h0⟩|⟨g,cap,cur,he,hB,hg,_⟩
     ·rw[←G8.out]at h0;omega
     ·simp only[Value.slice.injEq]at he;exact⟨g,he.1,hB,(dh hg).1⟩
    subst Yo;have vz:wr.heap.size≤w2.heap.size:=mq.out.size;go_upto_region 12 with fail
    obtain⟨tb,YM⟩:=dC (w2.heap.size);obtain⟨w3,xY⟩:=dC (w2.alloc (.cells #[I 0,.slice (some ⟨rb,0,none⟩) ml rc] 83));rw[←xY,←YM];have yJ:Below wr.heap.size wr w3:=(by rw[xY];exact mq.out.alloc vz _);have OT:w3.heap.size=tb+1:=(by rw[xY,YM];simp);have xy:w3.heap[tb]?=some (.cells #[I 0,.slice (some ⟨rb,0,none⟩) ml rc] 83 (0,0)):=(by rw[xY,YM];exact dP _ _);have Xk:Rd .i64 w3 (some ⟨rb,0,none⟩) run:=(by rw[xY];exact CZ.out.below ((fp w2.heap.size w2).alloc cG _) cG);have M7:s<wr.heap.size∧c1<wr.heap.size∧c2<wr.heap.size:=⟨HD.out.Bt.lt,HD.out.Bt.m1.lt,HD.out.Bt.m2.lt⟩;have SZ:fH w3 s c1 c2 n1 n2 f g2:=HD.out.Bt.other (yJ.block _ M7.1) (yJ.block _ M7.2.1) (yJ.block _ M7.2.2)
    have hD3:Dv af F m0 w0 eb L (tb::rb::s::c1::c2::lb.toList) w3 S:=HD.out.dv.mn yJ.os yJ.tape yJ.output yJ.size (fun k hk _=>yJ.block k hk) (fun k hk=>by
     simp only[iL]at hk ⊢;rcases hk with h|h|h|h|h|h
     ·right;rw[h];omega
     ·right;rw[h];omega
     ·exact .inl (.inl h)
     ·exact .inl (.inr (.inl h))
     ·exact .inl (.inr (.inr (.inl h)))
     ·exact .inl (.inr (.inr (.inr h))))
    have SX:∀z∈run,(Lit.int .i64 z).wf=true:=fun z hz=>by
     obtain⟨i,rfl,hi⟩:=HG.out.who j S f z HD.out.q (by rw[←RV.out];exact hz);have hb:=HG.out.ax j S f HD.out.q
     have:i<S.ax.length:=by
      rcases Nat.lt_or_ge i S.ax.length with h|h
      ·exact h
      ·unfold bU idx at hi;rw[aF (by omega)]at hi;simp only[oU]at hi;rw[rq h]at hi;simp at hi
     exact WalkArith.wf_i64 (by omega)
    have ah0:=ag (Gg (some ⟨rb,0,none⟩) rc k n w3 G8.out hrl ag9 SZ Xk SX (HG.out.age j S f HD.out.q) hk hn);obtain⟨m3,LL,hE3,X3⟩:=hD3.look;have ec:=hE3.cell X3;have eg:=X3.bj.eu;rw[HG.out.gs j S f HD.out.q]at eg;obtain⟨tK,vC,HD3,av4,av5,SY⟩:=mr yJ SZ hD3 Xk xy SX;obtain⟨o,ho⟩:=dC (qV f (run.getD 0 0) run);rw[←ho]at ah0;have Yf:=ag ho;have Yp:Hid (wr.heap.size≤tb∧rb<tb):=⟨by omega,by omega⟩;clear xY yJ xy Xk SZ hD3 SX X3 hE3 ho YM;have Xw:Hid (∀g:Nat,qZ f run k n=g→∃S',uj {S with av:=S.av+1} g S'∧Q (j+1) S' (iC g run f)):=fun g hg=>by have:=HG.out.next j S f HD.out.q dD (by rw[←RV.out];exact tS) g (by rw[←RV.out];exact hg);rw[←RV.out]at this;exact this
    have ie:Hid (∀g:Nat,bU S.ax g=0→Cp {S with av:=S.av+1} g):=fun g hg=>HG.out.aG j S f g HD.out.q dD hg
    have pI:=ag (HG.out.av j S f HD.out.q);have ah1:Hid (∀g∈run,∃i:Nat,g=i∧bU S.ax g=0):=fun g hg=>HG.out.who j S f g HD.out.q (by rw[←RV.out];exact hg)
    have HBN:=ag (HG.out.ax j S f HD.out.q);go_upto_if 58 with(go_at_call 29;refine ah0.out.mono ?_;rintro e w4 ⟨rfl,hd4⟩;have HD4:=ag hd4;clear hd4)
    have Kk:o∈run:=by
     have h0:run.getD 0 0∈run:=(by rw[yk,fv (by rw[←G8.out];exact ag9)];exact List.getElem_mem _);rw[Yf.out];rcases sw f run (run.getD 0 0)with h|h
     ·rw[h];exact h0
     ·exact h
    obtain⟨d4,xX⟩:=HD4.out;have Nz:w4.heap=w3.heap:=(by rw[xX];rfl);have hD4:Dv af F m0 w0 eb L (tb::rb::s::c1::c2::lb.toList) w4 S:=HD3.out.mn (by rw[xX];rfl) (by rw[xX];rfl) (by rw[xX];rfl) (by rw[Nz];omega) (fun k hk _=>by rw[Nz]) (fun k hk=> .inl hk);have hA4:fH w4 s c1 c2 n1 n2 f g2:=vC.out.other (by rw[Nz]) (by rw[Nz]) (by rw[Nz]);have hR4:Rd .i64 w4 (some ⟨rb,0,none⟩) run:=(by rw[xX];exact av4.out);have hX4:w4.heap[tb]?=some (.cells #[I 0,.slice (some ⟨rb,0,none⟩) ml rc] 83 (0,0)):=by rw[Nz];exact av5.out
    have hO4:w4.ownsRow w.heap.size 83 2 (.slice la j lc) j cs:=wJ HD.out.row (fun g hg=>by
     rw[Nz];refine tK.out.block g ?_;rcases HD.out.row.2 with⟨h1,_⟩|⟨g',_,_,h1,_,h2,_⟩
     ·rw[h1]at hg;cases hg
     ·rw[h1]at hg;cases hg;exact(dh h2).1)
    have ht4:w4.cell? ⟨tb,0,none⟩=some (I 0):=(by rw[cr _ _ _ _ _ _ hX4];rfl);have tf4:=iM w4 tb 0 _ _ hX4;have Xl:=ag (dO hD4 (dO hA4 (dO hR4 (dO hX4 hO4))));have hs4:w3.heap.size=w4.heap.size:=(by rw[Nz]);have Zx:=ag Kk;clear xX Nz hD4 hA4 hR4 hX4 hO4 Kk ec eg HD4
    have yV:Hid (∀(wx:World) (g:Nat) (S':Wd),Q (j+1) S' (iC g run f)→Dv af F m0 w0 eb L (tb::rb::s::c1::c2::lb.toList) wx S'→wx.heap[tb]?=some (.cells #[I g,.slice (some ⟨rb,0,none⟩) ml rc] 83 (0,0))→(∀k∈rb::s::c1::c2::lb.toList,wx.heap[k]?=w4.heap[k]?)→w4.heap.size≤wx.heap.size→
      ∃(g:Nat) (S':Wd),Q (j+1) S' (iC g run f)∧Dv af F m0 w0 eb L (tb::rb::s::c1::c2::lb.toList) wx S'∧wx.heap[tb]?=some (.cells #[I g,.slice (some ⟨rb,0,none⟩) ml rc] 83 (0,0))∧fH wx s c1 c2 n1 n2 f g2∧
      Rd .i64 wx (some ⟨rb,0,none⟩) run∧wx.ownsRow w.heap.size 83 2 (.slice la j lc) j cs∧w3.heap.size≤wx.heap.size):=fun wx g S' q1 q2 q3 q4 q5=>by
     obtain⟨z1,z2,z3,z4,z5⟩:=Xl.out;refine⟨g,S',q1,q2,q3,z2.other (q4 _ (by simp)) (q4 _ (by simp)) (q4 _ (by simp)),z3.other (q4 _ (by simp)),wJ z5 (fun g hg=>q4 g ?_),by omega⟩;rw[HD.out.la_]at hg;rw[hg];simp
    have ah2:Hid (∀k∈rb::s::c1::c2::lb.toList,k≠tb):=fun k hk=>by
     have h1:=HD.out.Bt.lt;have h2:=HD.out.Bt.m1.lt;have h3:=HD.out.Bt.m2.lt;obtain⟨t1,t2⟩:=Yp.out;simp only[iL]at hk;rcases hk with rfl|rfl|rfl|rfl|h
     ·omega
     ·omega
     ·omega
     ·omega
     ·have jO:lb=some k:=by cases lb with
       |none=>simp at h
       |some b=>simp at h;rw[h]
      have:=HD.out.la_;rw[jO]at this;rcases HD.out.row.2 with⟨h4,_⟩|⟨g',_,_,h4,_,h5,_⟩
      ·rw[h4]at this;cases this
      ·rw[h4]at this;cases this;have:=(dh h5).1;intro e;have e2:g'=tb:=e;omega
    go_cut [16,17]from 21 to 74 (fun u _ wx=>u=I o∧Hid (∃(g:Nat) (S':Wd),Q (j+1) S' (iC g run f)∧Dv af F m0 w0 eb L (tb::rb::s::c1::c2::lb.toList) wx S'∧wx.heap[tb]?=some (.cells #[I g,.slice (some ⟨rb,0,none⟩) ml rc] 83 (0,0))∧fH wx s c1 c2 n1 n2 f g2∧
      Rd .i64 wx (some ⟨rb,0,none⟩) run∧wx.ownsRow w.heap.size 83 2 (.slice la j lc) j cs∧w3.heap.size≤wx.heap.size))
    case first=>
     by_cases eK:k≤f o+n
     ·obtain⟨g,hg,jf⟩:=ah1.out o Zx.out;obtain⟨S',hd,hq⟩:=Xw.out g (by unfold qZ;rw[←Yf.out,aF eK];exact hg);subst hg;have HQ2:=ag hq;have ES:Hid (Calls prog 30 #[.pointer (some ⟨eb,0,none⟩),I g] (w4.setCell ⟨tb,0,none⟩ (I g)) fun e w'=>e=.returned (.bool true)∧Dv af F m0 w0 eb L (tb::rb::s::c1::c2::lb.toList) w' S'∧(∀k∈tb::rb::s::c1::c2::lb.toList,w'.heap[k]?=(w4.setCell ⟨tb,0,none⟩ (I g)).heap[k]?)∧(w4.setCell ⟨tb,0,none⟩ (I g)).heap.size≤w'.heap.size):=(by have D5:Dv af F m0 w0 eb L (tb::rb::s::c1::c2::lb.toList) (w4.setCell ⟨tb,0,none⟩ (I g)) S:=Xl.out.1.mn rfl rfl rfl (by simp[World.setCell]) (fun k hk hn=>fQ _ _ _ _ (by simp at hn ⊢;exact hn.1)) (fun k hk=> .inl hk);exact D5.call fun m0 w0 m L X hE=>GD X hE jf pI.out (ie.out g jf) hd);clear hd hq jf;have R0:decide (k≤f (g:Int)+n)=true:=(by simp[eK]);go_wp2_with (go_at_call 30;refine ES.out.mono ?_;rintro e w6 ⟨rfl,D6,nV,hsz⟩;have H6:=ag (dO D6 (dO nV hsz));clear D6 nV hsz);go_meet;obtain⟨D6,nV,hsz⟩:=H6.out;refine⟨rfl,yV.out w6 g S' HQ2.out D6 ?_ (fun k hk=>?_) (by simpa[World.setCell]using hsz)⟩
      ·rw[nV tb (by simp)];exact heap_setCell_same w4 tb 0 _ _ (I g) Xl.out.2.2.2.1
      ·rw[nV k (nO _ hk)];exact fQ _ _ _ _ (by simpa using ah2.out k hk)
     ·obtain⟨g,hg,jf⟩:=ah1.out _ (vt tS 0);obtain⟨S',hd,hq⟩:=Xw.out g (by unfold qZ;rw[←Yf.out,aE eK];exact hg);have HQ2:=ag hq
      have ES:Hid (Calls prog 25 #[.pointer (some ⟨eb,0,none⟩),I 0] w4 fun e w'=>e=.returned (I g)∧Dv af F m0 w0 eb L (tb::rb::s::c1::c2::lb.toList) w' S'∧(∀k∈tb::rb::s::c1::c2::lb.toList,w'.heap[k]?=w4.heap[k]?)∧w4.heap.size≤w'.heap.size):=
       Xl.out.1.call fun m0 w0 m L X hE=>zZ X hE (by have:=HBN.out;omega) 0 (by omega) run RV.out tS hg (by rw[←hg];exact jf) pI.out (ie.out g (by rw[←hg];exact jf)) hd
      clear hd hq jf hg;have R0:decide (k≤f o+n)=false:=(by simp[eK]);go_wp2_with (go_at_call 25;refine ES.out.mono ?_;rintro e w6 ⟨rfl,D6,nV,hsz⟩;have tx6:w6.cell? ⟨tb,0,none⟩=some (I 0):=(by rw[cr _ _ _ _ _ _ ((nV tb (by simp)).trans Xl.out.2.2.2.1)];rfl);have tf6:=iM w6 tb 0 _ _ ((nV tb (by simp)).trans Xl.out.2.2.2.1);have H6:=ag (dO D6 (dO nV hsz));clear D6 nV hsz);go_meet;obtain⟨D6,nV,hsz⟩:=H6.out;refine⟨rfl,yV.out _ g S' HQ2.out (D6.mn rfl rfl rfl (by simp[World.setCell]) (fun k hk hn=>fQ _ _ _ _ (by simp at hn ⊢;exact hn.1)) (fun k hk=> .inl hk)) ?_ (fun k hk=>?_) (by simpa[World.setCell]using hsz)⟩
      ·exact heap_setCell_same w6 tb 0 _ _ (I g) ((nV tb (by simp)).trans Xl.out.2.2.2.1)
      ·rw[fQ _ _ _ _ (by simpa using ah2.out k hk)];exact nV k (nO _ hk)
    case rest=>
     obtain⟨rfl,HC⟩:=hcut;obtain⟨g,S',q1,q2,q3,q4,q5,q6,q7⟩:=HC.out;have e0:wc.cell? ⟨tb,0,none⟩=some (I g):=(by rw[cr _ _ _ _ _ _ q3];rfl);have e1:wc.cell? ⟨tb,1,none⟩=some (.slice (some ⟨rb,0,none⟩) ml rc):=(by rw[cr _ _ _ _ _ _ q3];rfl);have M7:s<wr.heap.size∧c1<wr.heap.size∧c2<wr.heap.size:=⟨HD.out.Bt.lt,HD.out.Bt.m1.lt,HD.out.Bt.m2.lt⟩;have ah3:=ag (Ma (who:=(g:Int)) (some ⟨rb,0,none⟩) rc wc G8.out hrl q4 q5 SY.out (HG.out.age j S f HD.out.q) (fun _ b off e=>by cases e;exact⟨by omega,by omega⟩));have Rs:=ag (dO q1 (dO q2 (dO q3 (dO q4 (dO q5 (dO q6 q7))))));have XO:=ag M7;clear q1 q2 q3 q4 q5 q6 q7 HC M7;go_upto_region 18 with(go_at_call 31;refine ah3.out.mono ?_;rintro e w5 ⟨rfl,A5,B5⟩;obtain⟨Vi,vV⟩:=dA B5 A5;clear A5 B5)
     have ah4:w3.heap.size≤w5.heap.size:=jm Rs.out.2.2.2.2.2.2 Vi.out.size;have hlb:∀b,(Value.slice la j lc).ownBlock=some b→b≠s∧b≠c1∧b≠c2:=fun b hb=>HD.out.ne b (by rw[←HD.out.la_];exact hb)
     have h5:w5.heap[tb]?=some (.cells #[I g,.slice (some ⟨rb,0,none⟩) ml rc] 83 (0,0)):=(by rw[←Rs.out.2.2.1];exact Vi.out.block tb (by have:=Rs.out.2.2.2.2.2.2;omega) (by have:=Yp.out;omega) (by have:=Yp.out;omega));have f0:w5.cell? ⟨tb,0,none⟩=some (I g):=(by rw[cr _ _ _ _ _ _ h5];rfl);have f1:w5.cell? ⟨tb,1,none⟩=some (.slice (some ⟨rb,0,none⟩) ml rc):=by rw[cr _ _ _ _ _ _ h5];rfl
     have Xm:∀b,(Value.slice la j lc).ownBlock=some b→b<wr.heap.size:=fun b hb=>by
      rcases HD.out.row.2 with⟨h4,_⟩|⟨g',_,_,h4,_,h6,_⟩
      ·rw[h4]at hb;cases hb
      ·rw[h4]at hb;cases hb;exact(dh h6).1
     have nv:Hid (w5.ownsRow w.heap.size 83 2 (.slice la j lc) j cs):=wJ Rs.out.2.2.2.2.2.1 (fun b hb=>Vi.out.block b (by have:=Xm b hb;have:=Rs.out.2.2.2.2.2.2;have:=Yp.out;omega) (hlb b hb).1 (hlb b hb).2.2);have hb5:w.heap.size≤w5.heap.size:=(by have:=HD.out.le;have:=Yp.out;omega);have av6:=ag ah4;obtain⟨xH,aB9⟩:=dA hlb Xm;clear hlb Xm ah4 h5;have Ni:j<1000001:=(by omega);go_wp2_with (at_builtin;go_loud (refine od (us:=#[I g,.slice (some ⟨rb,0,none⟩) ml rc]) (w2:=w5) rfl (.tmp 71) (.tmp 73) 53 rfl underlying53 hi fV gF gG rfl (by decide) (by decide) rfl rfl (by simp[Value.oneCell']) (.slice la j lc) j _ rfl nv.out w5.heap.size rfl rfl Ni hb5 ?_));intro lg lcp w6 Ak kX gp
     have hN:Hid (∃S f g2 b1 b2 n1 n2 lb cs,Rf af F m0 w0 eb L Q w w6 s (j+1) (some ⟨lg,0,none⟩) lcp S f g2 b1 b2 n1 n2 lb cs):=by
      obtain⟨q1,q2,q3,q4,q5,q6,q7⟩:=Rs.out;have hle:=HD.out.le;have ht:=Yp.out;have hl:=XO.out;have hsz:=kX.size;have ha:(w5.alloc (.cells #[I g,.slice (some ⟨rb,0,none⟩) ml rc] 83)).heap.size=w5.heap.size+1:=(by simp);have h55:=av6.out
      have hlg:lg<w6.heap.size:=by
       rcases Ak.2 with⟨h4,_⟩|⟨g',_,_,h4,_,h6,_⟩
       ·cases h4
       ·cases h4;exact(dh h6).1
      have aC0:w.heap.size≤lg:=by
       rcases Ak.2 with⟨h4,_⟩|⟨g',_,_,h4,h5,h6,_⟩
       ·cases h4
       ·cases h4;exact h5
      have rI:∀k,k<w5.heap.size→(Value.slice la j lc).ownBlock≠some k→w6.heap[k]?=w5.heap[k]?:=fun k hk hn=>by rw[kX.block k (by rw[ha];omega) (fun e=>hn e.symm)];exact heap_alloc_old _ _ hk
      have hA6:fH w6 s c2 c1 ml n1 (iC (g:Int) run f) f:=vV.out.other (rI _ (by omega) (fun e=>(xH.out _ e).1 rfl)) (rI _ (by omega) (fun e=>(xH.out _ e).2.2 rfl)) (rI _ (by omega) (fun e=>(xH.out _ e).2.1 rfl));have hD5:Dv af F m0 w0 eb L (tb::rb::s::c1::c2::lb.toList) w5 S':=q2.mn Vi.out.os Vi.out.tape Vi.out.output Vi.out.size (fun k hk hn=>Vi.out.block k hk (fun e=>hn (by rw[e];simp)) (fun e=>hn (by rw[e];simp))) (fun k hk=> .inl hk)
      have hD6:Dv af F m0 w0 eb L (s::c2::c1::(some lg).toList) w6 S':=hD5.mn kX.os kX.tape kX.output (by omega) (fun k hk hn=>rI k hk (fun e=>hn (by
        have:lb=some k:=by rw[←HD.out.la_];exact e
        rw[this];simp))) (fun k hk=>by
       simp only[iL,Option.toList_some,List.not_mem_nil,or_false]at hk;rcases hk with h|h|h|h
       ·left;rw[h];simp
       ·left;rw[h];simp
       ·left;rw[h];simp
       ·rcases gp with h1|h1
        ·left;have:lb=some lg:=by rw[←HD.out.la_];exact h1
         rw[this,h];simp
        ·right;rw[h];exact⟨by omega,hlg⟩)
      refine⟨S',_,_,c2,c1,ml,n1,some lg,_,q1,hA6,Ak,rfl,hD6,⟨hle.1,hle.2.2.1,hle.2.1,by omega⟩,fun b hb=>?_⟩
      cases hb;rcases gp with h1|h1
      ·exact⟨(xH.out _ h1).1,(xH.out _ h1).2.2,(xH.out _ h1).2.1⟩
      ·exact⟨by omega,by omega,by omega⟩
     clear kX gp Ak;go_wp2;go_roundw
     case rel=>exact⟨j+1,_,_,rfl,by omega,hN⟩
     case measure=>simp;omega
  ·have hjm:j=most:=by omega
   have ah5:Hid (Calls prog 28 #[.pointer (some ⟨eb,0,none⟩)] wr fun e w2=>∃ra rc,e=.returned (.slice ra ml rc)∧Below wr.heap.size wr w2):=GQ.out.mono (by rintro e w2 ⟨v,rfl,ho,hb⟩;obtain⟨ra,rc,rfl,jF⟩:=ho.rd (by rw[←G8.out];omega);rw[←G8.out];exact⟨ra,rc,rfl,hb⟩);obtain⟨bb,hbb⟩:=dC (decide (cE S.ax=[]))
   have ny:decide ((ml:Int)=0)=bb:=by
    rw[hbb,G8.out,RV.out]
    cases cE S.ax<;>simp;omega
   have aC1:((ml:Int)==0)=bb:=ny;have IX:=ag hbb;have HJM:=ag hjm;clear hbb hjm GQ;go_wp2_with (go_at_call 28;refine ah5.out.mono ?_;rintro e w2 ⟨ra,rc,rfl,hb⟩;have mq:=ag hb;clear hb);go_ret2;exact⟨la,j,lc,S,f,HD.out.q,.inr HJM.out,by have h:=IX.out;subst h;rfl,(HD.out.dv.mn (bs':=[]) mq.out.os mq.out.tape mq.out.output mq.out.size (fun k hk _=>mq.out.block k hk) (fun k h=>by cases h)).tb⟩
end Go.Proofs.YtadifmnmfnihdaaGreat
namespace Go.Proofs.YtadifmnmfnihdaaGreat
open Mach
def vu(S:Wd)(g:Nat):Option Wd:=
 match gh S g with
 |some (S',true)=>some S'
 |_=>match S.gs[g]?,mf S g with
  |some x,some o=>
   if x.ae=0∨x.ae=20∨x.ae=18 then none else
   match(if o.ai=2∨o.ai=4 then jq S g else if o.ai=3∨o.ai=5 then jr S g else if o.ai=6 then js S g else if o.ai=9 then hO S g else none) with
   |some (S',true)=>some S'
   |_=>none
  |_,_=>none
theorem Ec{S S':Wd}{g:Nat}(h:uj S g S'):vu S g=some S':=by
 rcases h with h|⟨x,o,hx,hp,eK,h⟩
 ·unfold vu;rw[h]
 ·have h0:gh S g=some (S,false):=by
   unfold gh;rw[hx];show(if x.ae=0 then yes (jT S g)else if x.ae=20 then yes (KZ S g)else if x.ae=18 then yes (mL S g)else some (S,false))=_;rw[aE hp.1,aE hp.2.1,aE hp.2.2]
  unfold vu;rw[h0];simp only[hx,eK];rw[aE (fun h=>by rcases h with e|e|e;exact hp.1 e;exact hp.2.1 e;exact hp.2.2 e)];rcases h with⟨hk,h⟩|⟨hk,h⟩|⟨hk,h⟩|⟨hk,h⟩
  ·rw[aF hk,h]
  ·rw[aE (by omega),aF hk,h]
  ·rw[aE (by omega),aE (by omega),aF hk,h]
  ·rw[aE (by omega),aE (by omega),aE (by omega),aF hk,h]
def vw(a b:Int):Int→Int:=fun i=>if i=0 then a else if i=1 then b else 0
def Rg(S:Wd):Bool:=match(S.done.filter fun m=>m.g==1).map (·.res) with
 | [r0,r1]=>r0.v==9&&r0.ok&&!r1.ok
 |_=>false
def GR:Nat→Wd→Int→Int→Bool
 |0,_,_,_=>false
 |n+1,S,a,b=>
  if cE S.ax=[]then Rg S else
  let g:=qZ (vw a b) (cE S.ax) 2 2
  if g=0∨g=1 then
   match vu {S with av:=S.av+1} g.toNat with
   |some S'=>GR n S' (iC g (cE S.ax) (vw a b) 0) (iC g (cE S.ax) (vw a b) 1)
   |none=>false
  else false
def ev:List (List cu):=[[{ai:=2,ch:=1,v:=9},{ai:=6,ch:=1}],[{ai:=3,ch:=1},{ai:=3,ch:=1}]]
def pV:Wd:={V.gj ev 2 1 []with au:=[{places:=[]}],aO:=[false],aq:=[-1]}
theorem M8:GR 199 pV 0 0=true:=by decide+kernel
theorem Rh{S S':Wd}{n g:Nat}{a b:Int}(h:GR (n+1) S a b=true)(hr:cE S.ax≠[])(hg:qZ (vw a b) (cE S.ax) 2 2=g)(hD:uj {S with av:=S.av+1} g S'):GR n S' (iC g (cE S.ax) (vw a b) 0) (iC g (cE S.ax) (vw a b) 1)=true:=by
 unfold GR at h;rw[aE hr]at h;simp only[hg]at h;split at h
 ·rw[oU,Ec hD]at h;exact h
 ·cases h
theorem Al{f:Int→Int}{run:List Int}{k:Int}{n:Nat}(h:run≠[]):qZ f run k n∈run:=by
 have h0:run.getD 0 0∈run:=by rw[yk,fv (pd h)];exact List.getElem_mem _
 unfold qZ;split
 ·rcases sw f run (run.getD 0 0)with h1|h1
  ·rw[h1];exact h0
  ·exact h1
 ·exact vt h 0
theorem vx:V.z8 ev:=by
 refine⟨by decide,by decide,?_⟩;intro l hl o ho;simp only[ev,iL,List.not_mem_nil,or_false]at hl;rcases hl with rfl|rfl
 all_goals
  simp only[iL,List.not_mem_nil,or_false]at ho;rcases ho with rfl|rfl
  all_goals exact⟨by decide,by decide,by decide,by decide,fun c hc=>by cases hc⟩
theorem JO:V.xK ev [] 0 pV:=by
 have I:=V.GG vx (N:=2) (by omega) (most:=1) (by omega) [];have J:=I.grow (by decide) (r:={places:=[]}) ⟨by decide,by decide,by decide,by decide,by decide⟩ false;have R:=V.GH vx (N:=2) (by omega) (most:=1) (by omega) [];exact⟨⟨⟨_,J⟩,rfl,by omega,R.drawn,rfl,R.ops,Nat.le_refl 0,fun m h=>by cases h⟩,(V.wI vx (N:=2) (by omega) (most:=1) (by omega) [] (by decide)).2⟩
def QA(j:Nat)(S:Wd)(f:Int→Int):Prop:=V.xK ev [] j S∧j≤198∧∃a b:Int,f=vw a b∧(0≤a∧a≤j)∧(0≤b∧b≤j)∧GR (199-j) S a b=true
theorem GS(who:Int)(run:List Int)(f:Int→Int)(g:Int)(h:0≤f g):0≤iC who run f g∧iC who run f g≤f g+1:=by
 unfold iC;split<;>omega
theorem Ed{j:Nat}{S:Wd}(R:V.Row ev [] j S){i:Int}(h:i∈cE S.ax):(i=0∨i=1)∧∃k:Nat,i=k∧bU S.ax k=0:=by
 obtain⟨k,rfl,hk⟩:=V.sG h;refine⟨?_,k,rfl,hk⟩
 have hb:k<S.ax.length:=by
  rcases Nat.lt_or_ge k S.ax.length with h|h
  ·exact h
  ·unfold bU idx at hk;rw[aF (by omega)]at hk;simp only[oU]at hk;rw[rq h]at hk;simp at hk
 obtain⟨ls,I⟩:=R.inv;have h1:=I.ax;have h2:S.gs.length=2:=by have:=congrArg List.length R.ops;simpa[ev]using this
 omega
theorem QA.next{j g:Nat}{S:Wd}{f:Int→Int}(h:QA j S f)(hr:cE S.ax≠[])(hg:qZ f (cE S.ax) 2 2=g):∃S',uj {S with av:=S.av+1} g S'∧j≠198∧QA (j+1) S' (iC g (cE S.ax) f):=by
 obtain⟨R,hj,a,b,rfl,ha,hb,hc⟩:=h;have hm:(g:Int)∈cE S.ax:=by rw[←hg];exact Al hr
 obtain⟨_,k,hk,jf⟩:=Ed R.1 hm;have hk:g=k:=by omega
 subst hk;obtain⟨S',hD,R'⟩:=R.next (by decide) (by omega) jf;have hn:199-j=(198-j)+1:=by omega
 rw[hn]at hc;have Ek:=Rh hc hr hg hD;have h98:j≠198:=by rintro rfl;simp[GR]at Ek
 refine⟨S',hD,h98,R',by omega,_,_,?_,?_,?_,by rw[show 199-(j+1)=198-j by omega];exact Ek⟩
 ·funext i;unfold vw;by_cases h0:i=0
  ·subst h0;rfl
  ·by_cases h1:i=1
   ·subst h1;rfl
   ·rw[aE h0,aE h1];unfold iC;rw[aE (fun hh=>by have:=(Ed R.1 hh.1).1;omega)]
 ·have:=GS g (cE S.ax) (vw a b) 0 (by show(0:Int)≤a;exact ha.1);have e:vw a b 0=a:=rfl;omega
 ·have:=GS g (cE S.ax) (vw a b) 1 (by show(0:Int)≤b;exact hb.1);have e:vw a b 1=b:=rfl;omega
theorem Ee:Re QA 2 2 198:=by
 refine⟨fun j S f h=>?_,fun j S f h=>?_,fun j S f g h hg=>V.sG hg,fun j S f g h hj hg=>?_,fun j S f h=>?_,fun j S f h g=>?_,fun j S f h hj hr g hg=>?_⟩
 ·obtain⟨ls,I⟩:=h.1.1.inv;have:=I.ax;have:=I.n8;omega
 ·have:=h.1.1.av;have:=h.1.1.most;omega
 ·exact(V.Vh ev [] (by decide) (fun v hv=>by cases hv)).aG j S g h.1 (by omega) hg
 ·have:=congrArg List.length h.1.1.ops;simpa[ev]using this
 ·obtain⟨R,hj,a,b,rfl,ha,hb,hc⟩:=h;unfold vw;split
  ·omega
  ·split<;>omega
 ·obtain⟨S',h1,h2,h3⟩:=h.next hr hg;exact⟨S',h1,h3⟩
theorem QA.start:QA 0 pV (fun _=>0):=⟨JO,by omega,0,0,by
 funext i;unfold vw;split
 ·rfl
 ·split<;>rfl,by omega,by omega,M8⟩
theorem QA.fin{j:Nat}{S:Wd}{f:Int→Int}(h:QA j S f)(he:cE S.ax=[]∨j=198):cE S.ax=[]∧Rg S=true:=by
 by_cases hr:cE S.ax=[]
 ·refine⟨hr,?_⟩;obtain⟨R,hj,a,b,rfl,ha,hb,hc⟩:=h;rw[show 199-j=(198-j)+1 by omega]at hc;unfold GR at hc;rw[aF hr]at hc;exact hc
 ·exfalso;rcases he with he|he
  ·exact hr he
  ·have hm:=Al (f:=f) (k:=2) (n:=2) hr;obtain⟨_,k,hk,_⟩:=Ed h.1.1 hm;obtain⟨S',_,h98,_⟩:=h.next hr hk;exact h98 he
theorem uo:∀l∈ev,CY l:=by
 intro l hl;simp only[ev,iL,List.not_mem_nil,or_false]at hl;rcases hl with rfl|rfl
 all_goals
  refine⟨by decide,fun o ho=>?_⟩;simp only[iL,List.not_mem_nil,or_false]at ho;rcases ho with rfl|rfl
  all_goals exact⟨by unfold pW;decide,by unfold pW;decide,by unfold pW;decide,by unfold pW;decide,by decide,fun c hc=>by cases hc⟩
end Go.Proofs.YtadifmnmfnihdaaGreat
namespace Go.Proofs.YtadifmnmfnihdaaGreat
open Go.RowKit Mach
def Ef(wb bB gB bL gL bS cS bD gD bQ gQ qQ bP gP qP:Nat):bH→Option oJ
 | .al=>some (some wb,0,[I 2,I 1,I 0,.slice none 0 0,.pointer (some ⟨bB,0,none⟩),.slice none 0 0,.slice none 0 0,.pointer (some ⟨bL,0,none⟩),.pointer (some ⟨bQ,0,none⟩),.slice (some ⟨bS,0,none⟩) 2 cS,.pointer (some ⟨bP,0,none⟩),.pointer (some ⟨bD,0,none⟩),.slice none 0 0,.slice none 0 0])
 | .dB=>some (some bB,0,[.slice (some ⟨gB,0,none⟩) 2 2])
 | .ax=>some (some gB,2,bT ry 0 (List.replicate 2 (0,false)))
 | .dY=>some (some bL,0,[.slice (some ⟨gL,0,none⟩) 1 1])
 | .dQ=>some (some gL,1,[I (-1)])
 | .ah=>some (some bS,cS,bT mg 0 (List.replicate 2 {}))
 | .gN=>some (some bD,0,[.slice (some ⟨gD,0,none⟩) 0 0,I 0])
 | .list=>some (some gD,0,[])
 | .aw=>some (some bQ,0,[.slice (some ⟨gQ,0,none⟩) 2 2,.slice (some ⟨qQ,0,none⟩) 16 16])
 | .aS=>some (some gQ,2,bT oD 0 (List.replicate 2 {}))
 | .bM=>some (some qQ,16,bT rG 0 (List.replicate 16 {}))
 | .ar=>some (some bP,0,[I 2,I 1,.slice (some ⟨gP,0,none⟩) 2 2,.slice none 0 0,I 0,.slice (some ⟨qP,0,none⟩) 2 2])
 | .aC=>some (some gP,2,[.slice none 0 0,.slice none 0 0])
 | .bV=>some (some qP,2,[B false,B false])
 |_=>none
def wO:Wd:={V.gj ev 2 1 []with aq:=[-1]}
theorem Xn{lo:Nat}{w0 wr:World}{wb bB gB bL gL bS cS bD gD bQ gQ qQ bP gP qP:Nat}{va:Option Addr}{vc:Nat}{f:bH→Option oJ}{B:Nat→CK→Option Nat}{K:Nat→CK→Nat}{C:Nat→CK→List Value}(G:Ny lo w0 wr (Ef wb bB gB bL gL bS cS bD gD bQ gQ qQ bP gP qP) (fun v=>[I 2,I 1,I 0,v,.pointer (some ⟨bB,0,none⟩),.slice none 0 0,.slice none 0 0,.pointer (some ⟨bL,0,none⟩),.pointer (some ⟨bQ,0,none⟩),.slice (some ⟨bS,0,none⟩) 2 cS,.pointer (some ⟨bP,0,none⟩),.pointer (some ⟨bD,0,none⟩),.slice none 0 0,.slice none 0 0]) wb ev 2 (.slice va 2 vc) f B K C):∃F m,F.al=wb∧bz lo F wr m wO:=by
 obtain⟨gb,yp⟩:∃gb,(f .gs).bind (·.1)=some gb:=by
  cases h:(f .gs).bind (·.1) with
  |none=>have:=G.cU;rw[h]at this;simp[nG]at this
  |some g=>exact⟨g,rfl⟩
 obtain⟨m,hm⟩:∃m:Mem,m=⟨fun r=>(f r).bind (·.1),fun r=>((f r).map (·.2.1)).getD 0⟩:=⟨_,rfl⟩;have ny:∀r,m.aV r=(f r).bind (·.1):=fun r=>by rw[hm]
 have G7:∀r,m.cap r=((f r).map (·.2.1)).getD 0:=fun r=>by rw[hm]
 have hf:∀r,r≠ .al→r≠ .gs→(∀i,r≠ .ops i)→(∀i q,r≠ .cases i q)→f r=Ef wb bB gB bL gL bS cS bD gD bQ gQ qQ bP gP qP r:=G.N7;have kK:∀r:bH,f r=none→∀q,m.cU r q=.slice none 0 0:=fun r h q=>by apply Mem.j6;rw[ny,h];rfl
 have AP:∀(r:bH) (b c n:Nat) (xs:List Value),f r=some (some b,c,xs)→m.cU r n=.slice (some ⟨b,0,none⟩) n c:=fun r b c n xs h=>by rw[Mem.de (show m.aV r=some b by rw[ny,h];rfl),G7,h];rfl
 have zD:∀(r:bH) (b c:Nat) (xs:List Value),f r=some (some b,c,xs)→m.ptr r=.pointer (some ⟨b,0,none⟩):=fun r b c xs h=>Mem.lz (show m.aV r=some b by rw[ny,h];rfl)
 have ht:∀i l,ev[i]?=some l→i<2:=fun i l h=>(cA h)
 have zd:∀g:Nat,wO.gs[g]?=(ev[g]?).map V.jQ:=fun g=>na ..
 have jM:∀r,aj m wO r=((f r).map (·.2.2)).getD []:=by
  intro r;have BZ:=hf r
  cases r with
  |al=>
   rw[G.al];have e1:m.cU .gs 2=.slice va 2 vc:=(by rw[qC,ny,G7];exact G.cU.symm);show[I 2,I 1,I 0,m.cU .gs 2,m.ptr .dB,m.cU .au 0,m.cU .aO 0,m.ptr .dY,m.ptr .aw,m.cU .ah 2,m.ptr .ar,m.ptr .gN,m.cU .draws 0,m.cU .done 0]=_;rw[e1,zD .dB bB 0 _ (hf _ (by simp) (by simp) (by simp) (by simp)),kK .au (hf _ (by simp) (by simp) (by simp) (by simp)),kK .aO (hf _ (by simp) (by simp) (by simp) (by simp)),zD .dY bL 0 _ (hf _ (by simp) (by simp) (by simp) (by simp)),zD .aw bQ 0 _ (hf _ (by simp) (by simp) (by simp) (by simp)),AP .ah bS cS 2 _ (hf _ (by simp) (by simp) (by simp) (by simp)),zD .ar bP 0 _ (hf _ (by simp) (by simp) (by simp) (by simp)),zD .gN bD 0 _ (hf _ (by simp) (by simp) (by simp) (by simp)),kK .draws (hf _ (by simp) (by simp) (by simp) (by simp)),kK .done (hf _ (by simp) (by simp) (by simp) (by simp))];rfl
  |gs=>
   show bT (gk m) 0 (ev.map V.jQ)=_;rw[G.row,Aa,show ev.take 2=ev from rfl];refine gX _ fun i l hl=>?_
   show[m.cU (.ops i) l.length,_,_,_,_,_,_,_,_,_,_,_,_,_,_]++_++[m.cU (.aH i) 0,m.cU (.aq i) 0,m.cU (.bA i) 0,m.cU (.wakes i) 0,_]=_;rw[kK (.aH i) (hf _ (by simp) (by simp) (by simp) (by simp)),kK (.aq i) (hf _ (by simp) (by simp) (by simp) (by simp)),kK (.bA i) (hf _ (by simp) (by simp) (by simp) (by simp)),kK (.wakes i) (hf _ (by simp) (by simp) (by simp) (by simp)),qC,ny,G7,G.ops i l (ht i l hl) hl];rfl
  |ops g=>
   simp only[aj,zd]
   cases hg:ev[g]? with
   |none=>
    have:2≤g:=List.getElem?_eq_none_iff.1 hg;rw[(G.no g this).1];rfl
   |some l=>
    rw[G.ops g l (ht g l hg) hg];simp only[km,Option.getD_some];refine gX _ fun q o ho=>?_
    show[_,_,_,_,m.cU (.cases g q) _,_]=[_,_,_,_,_,_];rw[qC,ny,G7,G.cs g q (ht g l hg)];rfl
  |cases g j=>
   simp only[aj,zd]
   cases hg:ev[g]? with
   |none=>
    have:2≤g:=List.getElem?_eq_none_iff.1 hg;rw[(G.no g this).2 j];rfl
   |some l=>
    rw[G.cs g j (ht g l hg)];simp only[km,Option.getD_some]
    cases ho:l[j]? with
    |none=>
     rw[G.csn g l j (ht g l hg) hg ho];show(match l[j]? with|some o=>bT fT 0 o.cases|none=>[])=_;rw[ho]
    |some o=>
     rw[G.cse g l j o (ht g l hg) hg ho];show(match l[j]? with|some o=>bT fT 0 o.cases|none=>[])=_;rw[ho]
  |dB=>
   rw[hf _ (by simp) (by simp) (by simp) (by simp)];show[m.cU .ax 2]=_;rw[AP .ax gB 2 2 _ (hf _ (by simp) (by simp) (by simp) (by simp))];rfl
  |ax=>
   rw[hf _ (by simp) (by simp) (by simp) (by simp)];rfl
  |dY=>
   rw[hf _ (by simp) (by simp) (by simp) (by simp)];show[m.cU .dQ 1]=_;rw[AP .dQ gL 1 1 _ (hf _ (by simp) (by simp) (by simp) (by simp))];rfl
  |aw=>
   rw[hf _ (by simp) (by simp) (by simp) (by simp)];show[m.cU .aS 2,m.cU .bM 16]=_;rw[AP .aS gQ 2 2 _ (hf _ (by simp) (by simp) (by simp) (by simp)),AP .bM qQ 16 16 _ (hf _ (by simp) (by simp) (by simp) (by simp))];rfl
  |ar=>
   rw[hf _ (by simp) (by simp) (by simp) (by simp)];show[I 2,I 1,m.cU .aC 2,m.cU .aK 0,I 0,m.cU .bV 2]=_;rw[AP .aC gP 2 2 _ (hf _ (by simp) (by simp) (by simp) (by simp)),kK .aK (hf _ (by simp) (by simp) (by simp) (by simp)),AP .bV qP 2 2 _ (hf _ (by simp) (by simp) (by simp) (by simp))];rfl
  |aC=>
   rw[hf _ (by simp) (by simp) (by simp) (by simp)];show[m.cU (.cache 0) 0,m.cU (.cache 1) 0]=_;rw[kK (.cache 0) (hf _ (by simp) (by simp) (by simp) (by simp)),kK (.cache 1) (hf _ (by simp) (by simp) (by simp) (by simp))];rfl
  |cache g=>
   rw[hf _ (by simp) (by simp) (by simp) (by simp)];show(match([[],[]]:List (List Int))[g]? with|some c=>c.map I|none=>[])=[];rcases g with _|_|g<;>rfl
  |gN=>
   rw[hf _ (by simp) (by simp) (by simp) (by simp)];show[m.cU .list 0,I 0]=_;rw[AP .list gD 0 0 _ (hf _ (by simp) (by simp) (by simp) (by simp))];rfl
  |au=>
   rw[hf _ (by simp) (by simp) (by simp) (by simp)];rfl
  |aO=>
   rw[hf _ (by simp) (by simp) (by simp) (by simp)];rfl
  |dQ=>
   rw[hf _ (by simp) (by simp) (by simp) (by simp)];rfl
  |aS=>
   rw[hf _ (by simp) (by simp) (by simp) (by simp)];rfl
  |bM=>
   rw[hf _ (by simp) (by simp) (by simp) (by simp)];rfl
  |ah=>
   rw[hf _ (by simp) (by simp) (by simp) (by simp)];rfl
  |aK=>
   rw[hf _ (by simp) (by simp) (by simp) (by simp)];rfl
  |bV=>
   rw[hf _ (by simp) (by simp) (by simp) (by simp)];rfl
  |list=>
   rw[hf _ (by simp) (by simp) (by simp) (by simp)];rfl
  |draws=>
   rw[hf _ (by simp) (by simp) (by simp) (by simp)];rfl
  |done=>
   rw[hf _ (by simp) (by simp) (by simp) (by simp)];rfl
  |eU i=>
   rw[hf _ (by simp) (by simp) (by simp) (by simp)];rfl
  |places i=>
   rw[hf _ (by simp) (by simp) (by simp) (by simp)];rfl
  |aH g=>
   rw[hf _ (by simp) (by simp) (by simp) (by simp)];simp only[aj,zd]
   cases ev[g]?<;>rfl
  |aq g=>
   rw[hf _ (by simp) (by simp) (by simp) (by simp)];simp only[aj,zd]
   cases ev[g]?<;>rfl
  |bA g=>
   rw[hf _ (by simp) (by simp) (by simp) (by simp)];simp only[aj,zd]
   cases ev[g]?<;>rfl
  |wakes g=>
   rw[hf _ (by simp) (by simp) (by simp) (by simp)];simp only[aj,zd]
   cases ev[g]?<;>rfl
 refine⟨{al:=wb,gs:=gb,dB:=bB,ax:=gB,dY:=bL,aw:=bQ,aS:=gQ,bM:=qQ,ah:=bS,ar:=bP,aC:=gP,bV:=qP,gN:=bD},m,rfl,fun r r' b h h'=>?_,fun r b h=>?_,fun r h=>?_,?_⟩
 ·rw[ny]at h h';exact cN.inj G.own r r' b h h'
 ·rw[jM,G7];rw[ny]at h;exact cN.lies G.own r b h
 ·rw[jM];rw[ny]at h;exact cN.none_ G.own r h
 ·have k:∀(r:bH) (b c:Nat) (xs:List Value),Ef wb bB gB bL gL bS cS bD gD bQ gQ qQ bP gP qP r=some (some b,c,xs)→r≠ .al→r≠ .gs→(∀i,r≠ .ops i)→(∀i q,r≠ .cases i q)→m.aV r=some b:=fun r b c xs h h1 h2 h3 h4=>by rw[ny,hf r h1 h2 h3 h4,h];rfl
  exact⟨by rw[ny,G.al];rfl,by rw[ny];exact yp,k _ _ _ _ rfl (by simp) (by simp) (by simp) (by simp),k _ _ _ _ rfl (by simp) (by simp) (by simp) (by simp),k _ _ _ _ rfl (by simp) (by simp) (by simp) (by simp),k _ _ _ _ rfl (by simp) (by simp) (by simp) (by simp),k _ _ _ _ rfl (by simp) (by simp) (by simp) (by simp),k _ _ _ _ rfl (by simp) (by simp) (by simp) (by simp),k _ _ _ _ rfl (by simp) (by simp) (by simp) (by simp),k _ _ _ _ rfl (by simp) (by simp) (by simp) (by simp),k _ _ _ _ rfl (by simp) (by simp) (by simp) (by simp),k _ _ _ _ rfl (by simp) (by simp) (by simp) (by simp),k _ _ _ _ rfl (by simp) (by simp) (by simp) (by simp)⟩
end Go.Proofs.YtadifmnmfnihdaaGreat
namespace Go.Proofs.YtadifmnmfnihdaaGreat
open Go.RowKit Mach Go.Proofs.Tryz
def gA(l:List cu)(oa:Option Addr)(oc:Nat)(b1:Option Addr)(d1:Nat)(b2:Option Addr)(d2:Nat)(b3:Option Addr)(d3:Nat)(b4:Option Addr)(d4:Nat):Array Value:=
 #[.slice oa l.length oc,I 0,I 0,I 0,B false,I 0,B false,I (-1),I (-1),I (-1),I 0,I 0,I 0,I (-1),I (-1),I 0,I (-1),I 0,B false,I 0,.slice b1 0 d1,.slice b2 0 d2,.slice b3 0 d3,.slice b4 0 d4,I 0]
structure Cs(w:World)(ga ha sa ca:Option Addr):Prop where
 g:∃gb rB,ga=some ⟨gb,rB,none⟩∧∀(j:Nat) l,ev[j]?=some l→∃oa oc b1 d1 b2 d2 b3 d3 b4 d4,(∀q v,(gA l oa oc b1 d1 b2 d2 b3 d3 b4 d4)[q]?=some v→w.cell? ⟨gb,rB+j*25+q,none⟩=some v)∧kC w oa l
 h:∃hb Ls,ha=some ⟨hb,Ls,none⟩∧∀(q:Nat) v,(#[I 0,.slice none 0 0,B false,I (-1),.slice none 0 0,.slice none 0 0]:Array Value)[q]?=some v→w.cell? ⟨hb,Ls+q,none⟩=some v
 s:gC w sa 2 (bT mg 0 (List.replicate 2 {}))
 c:∃cb off a0 c0 a1 c1,ca=some ⟨cb,off,none⟩∧cb<w.heap.size∧w.cell? ⟨cb,off,none⟩=some (.slice a0 0 c0)∧w.cell? ⟨cb,off+1,none⟩=some (.slice a1 0 c1)
theorem Cs.below{w w':World}{ga ha sa ca:Option Addr}(H:Cs w ga ha sa ca)(hb:Below w.heap.size w w'):Cs w' ga ha sa ca:=by
 obtain⟨gb,rB,e1,h1⟩:=H.g;obtain⟨ff,Ls,e2,h2⟩:=H.h;obtain⟨cb,off,a0,c0,a1,c1,e3,dD,h3,h4⟩:=H.c;refine⟨⟨gb,rB,e1,fun j l hl=>?_⟩,⟨ff,Ls,e2,fun q v hv=>cw hb cG _ _ (h2 q v hv)⟩,H.s.below hb cG,⟨cb,off,a0,c0,a1,c1,e3,uB dD hb.size,cw hb cG _ _ h3,cw hb cG _ _ h4⟩⟩;obtain⟨oa,oc,b1,d1,b2,d2,b3,d3,b4,d4,k1,k2⟩:=h1 j l hl;exact⟨oa,oc,b1,d1,b2,d2,b3,d3,b4,d4,fun q v hv=>cw hb cG _ _ (k1 q v hv),k2.below hb cG⟩
def ofF(wb bB gB bL gL bS cS bD gD:Nat):bH→Option oJ
 | .al=>some (some wb,0,[I 2,I 1,I 0,.slice none 0 0,.pointer (some ⟨bB,0,none⟩),.slice none 0 0,.slice none 0 0,.pointer (some ⟨bL,0,none⟩),.pointer none,.slice (some ⟨bS,0,none⟩) 2 cS,.pointer none,.pointer (some ⟨bD,0,none⟩),.slice none 0 0,.slice none 0 0])
 | .dB=>some (some bB,0,[.slice (some ⟨gB,0,none⟩) 2 2])
 | .ax=>some (some gB,2,bT ry 0 (List.replicate 2 (0,false)))
 | .dY=>some (some bL,0,[.slice (some ⟨gL,0,none⟩) 1 1])
 | .dQ=>some (some gL,1,[I (-1)])
 | .ah=>some (some bS,cS,bT mg 0 (List.replicate 2 {}))
 | .gN=>some (some bD,0,[.slice (some ⟨gD,0,none⟩) 0 0,I 0])
 | .list=>some (some gD,0,[])
 |_=>none
theorem GU(W:World):Calls prog 79 #[I 2,I 16] W fun e w'=>∃b g q,e=.returned (.tuple #[.pointer (some ⟨b,0,none⟩),I 0])∧eh W.heap.size W w' [(.aw,some b,0,[.slice (some ⟨g,0,none⟩) 2 2,.slice (some ⟨q,0,none⟩) 16 16]),(.aS,some g,2,bT oD 0 (List.replicate 2 {})),(.bM,some q,16,bT rG 0 (List.replicate 16 {}))]:=by
 have X0:eh W.heap.size W W []:=⟨fp _ _,Nat.le_refl _,by simp,fun e h=>by simp at h,fun e h=>by simp at h⟩;exact BN 2 (by omega) X0
theorem Vj:∃d,prog.underlying 59=some d∧(match d with| .struct _| .array _ _=>true|_=>false)=true:=by
 have h:(match prog.underlying 59 with|some d=>(match d with| .struct _| .array _ _=>true|_=>false)|none=>false)=true:=by kernel_rfl
 cases hd:prog.underlying 59 with
 |none=>rw[hd]at h;cases h
 |some d=>rw[hd]at h;exact⟨d,rfl,h⟩
theorem JP:(prog.info? 59).map (·.size)=some 6:=by kernel_rfl
theorem Un(ga ha sa ca ma da xa:Option Addr)(gc hc sc cc mc dc xc:Nat)(w:World)(H:Cs w ga ha sa ca):Calls prog 74 #[.agg #[I 2,I 1,I 0,.slice ga 2 gc,.slice ha 1 hc,.slice sa 2 sc,.slice ca 2 cc,.slice ma 0 mc,I 0,.slice da 0 dc,I 0,.slice xa 0 xc]] w fun e w'=>∃F m,e=.returned (.pointer (some ⟨F.al,0,none⟩))∧bz (w.heap.size+1) F w' m pV∧Below w.heap.size w w':=by
 obtain⟨gb,rB,rfl,hgx⟩:=H.g;obtain⟨cb,uq,rfl,Yq⟩:=H.h;have oR:Hid (∀(j:Nat) l,ev[j]?=some l→∃oa oc b1 d1 b2 d2 b3 d3 b4 d4,(∀q v,(gA l oa oc b1 d1 b2 d2 b3 d3 b4 d4)[q]?=some v→w.cell? ⟨gb,rB+j*25+q,none⟩=some v)∧kC w oa l):=hgx;have HCX:Hid (∀(q:Nat) v,(#[I 0,.slice none 0 0,B false,I (-1),.slice none 0 0,.slice none 0 0]:Array Value)[q]?=some v→w.cell? ⟨cb,uq+q,none⟩=some v):=Yq;clear hgx Yq;obtain⟨i0,hi,fV,gF,gG⟩:=info_parts xU;obtain⟨i3,gi,RO,RP,RQ⟩:=info_parts uS;obtain⟨i1,ki,JV,JW,JX⟩:=info_parts xO;obtain⟨i2,li,lz0,lz1,lz2⟩:=info_parts Pv;obtain⟨wA,tY⟩:=dC (w.alloc (.cells #[I 2,I 1,I 0,.slice (some ⟨gb,rB,none⟩) 2 gc,.slice (some ⟨cb,uq,none⟩) 1 hc,.slice sa 2 sc,.slice ca 2 cc,.slice ma 0 mc,I 0,.slice da 0 dc,I 0,.slice xa 0 xc] 41));have JL:Below w.heap.size w wA:=by rw[tY];exact(fp _ _).alloc cG _
 obtain⟨ab,G3⟩:∃r,r=w.heap.size:=⟨_,rfl⟩;have ZR:wA.heap[ab]?=some (.cells #[I 2,I 1,I 0,.slice (some ⟨gb,rB,none⟩) 2 gc,.slice (some ⟨cb,uq,none⟩) 1 hc,.slice sa 2 sc,.slice ca 2 cc,.slice ma 0 mc,I 0,.slice da 0 dc,I 0,.slice xa 0 xc] 41 (0,0)):=by rw[tY,G3];exact dP _ _
 have FI:wA.heap.size=ab+1:=by rw[tY,G3];simp
 have Ao:Hid (∀W,Below wA.heap.size wA W→W.cell? ⟨ab,0,none⟩=some (I 2)∧W.cell? ⟨ab,1,none⟩=some (I 1)∧W.cell? ⟨ab,2,none⟩=some (I 0)∧W.cell? ⟨ab,3,none⟩=some (.slice (some ⟨gb,rB,none⟩) 2 gc)∧W.cell? ⟨ab,4,none⟩=some (.slice (some ⟨cb,uq,none⟩) 1 hc)∧W.cell? ⟨ab,5,none⟩=some (.slice sa 2 sc)∧W.cell? ⟨ab,9,none⟩=some (.slice da 0 dc)∧W.cell? ⟨ab,11,none⟩=some (.slice xa 0 xc)):=fun W hb=>by
  have k:∀j v,(#[I 2,I 1,I 0,.slice (some ⟨gb,rB,none⟩) 2 gc,.slice (some ⟨cb,uq,none⟩) 1 hc,.slice sa 2 sc,.slice ca 2 cc,.slice ma 0 mc,I 0,.slice da 0 dc,I 0,.slice xa 0 xc]:Array Value)[j]?=some v→W.cell? ⟨ab,j,none⟩=some v:=fun j v hv=>cw hb cG _ _ (by rw[cr _ _ _ _ _ _ ZR];exact hv)
  exact⟨k 0 _ rfl,k 1 _ rfl,k 2 _ rfl,k 3 _ rfl,k 4 _ rfl,k 5 _ rfl,k 9 _ rfl,k 11 _ rfl⟩
 have HSR:Hid (∀W,Below wA.heap.size wA W→W.cell? ⟨ab,6,none⟩=some (.slice ca 2 cc)∧W.cell? ⟨ab,7,none⟩=some (.slice ma 0 mc)∧W.cell? ⟨ab,8,none⟩=some (I 0)∧W.cell? ⟨ab,10,none⟩=some (I 0)):=fun W hb=>by
  have k:∀j v,(#[I 2,I 1,I 0,.slice (some ⟨gb,rB,none⟩) 2 gc,.slice (some ⟨cb,uq,none⟩) 1 hc,.slice sa 2 sc,.slice ca 2 cc,.slice ma 0 mc,I 0,.slice da 0 dc,I 0,.slice xa 0 xc]:Array Value)[j]?=some v→W.cell? ⟨ab,j,none⟩=some v:=fun j v hv=>cw hb cG _ _ (by rw[cr _ _ _ _ _ _ ZR];exact hv)
  exact⟨k 6 _ rfl,k 7 _ rfl,k 8 _ rfl,k 10 _ rfl⟩
 have HO:=ag (H.below JL);have HW:Hid (ab=w.heap.size∧wA.heap.size=ab+1∧Below w.heap.size w wA):=⟨G3,FI,JL⟩;have HB:=ag (fun(w1:World) (L:List (bH×oJ)) (H:eh wA.heap.size wA w1 L)=>show Calls prog 80 #[I 2] w1 (fun e w'=>∃b g,e=.returned (.pointer (some ⟨b,0,none⟩))∧eh wA.heap.size wA w' ((.dB,some b,0,[.slice (some ⟨g,0,none⟩) 2 2])::(.ax,some g,2,bT ry 0 (List.replicate 2 (0,false)))::L))from BM 2 (by omega) (by omega) H);have HL:=ag (fun(w1:World) (L:List (bH×oJ)) (H:eh wA.heap.size wA w1 L)=>Jj H);have RJ:=ag (fun(w1:World) (L:List (bH×oJ)) (H:eh wA.heap.size wA w1 L)=>E0 [] 0 rfl da dc H ⟨by decide,fun h=>by simp at h⟩ (by omega))
 have LD:=ag (fun(ops:Array Oper) (o:Oper) (ac:Act) (K:Act→World→Prop) (Q:Exit→Act→World→Prop) (E:Prop) (w1:World) (L:List (bH×oJ)) (H:eh wA.heap.size wA w1 L)=>uT (P:=prog) (ops:=ops) (o:=o) (a:=ac) (w:=w1) (K:=K) (Q:=Q) (E:=E) (s:=.const (.slice none 0 0)) (x:=.tmp 21) (t:=37) (ht:=underlying37) (hi:=hi) (hz:=fV) (hsize:=gF) (hby:=gG) (hzs:=rfl) (hsz:=by decide) (hbb:=by decide)
  (ao:=sa) (n:=2) (c:=sc) (cs:=bT mg 0 (List.replicate 2 {})) (hl:=rfl) (hc:=HO.out.s.below H.below cG) (h1:=by decide) (hn:=by omega) (H:=H) (r:=.ah) (hr:=by intro q hq;simp[eI]at hq))
 have X0:eh wA.heap.size wA wA []:=⟨fp _ _,Nat.le_refl _,by simp,fun e h=>by simp at h,fun e h=>by simp at h⟩;have X1:=ag X0;have X:=ag X0.drew;have hS:=Ao.out _ X.out.below;clear H JL ZR FI X0;go_enter func74,ntmps74;go_upto_region 1 with fail
 rw[←tY,←G3];clear tY G3;go_cut [3]from 8 to 33 (fun x wx=>∃wb bB gB bL gL bS cS bD gD,x=.pointer (some ⟨wb,0,none⟩)∧Hid (eF wA.heap.size wA wx (ofF wb bB gB bL gL bS cS bD gD)))
 case first=>
  go_region_held3 (fun W=>W.cell? ⟨ab,0,none⟩=some (I 2)∧W.cell? ⟨ab,1,none⟩=some (I 1)∧W.cell? ⟨ab,2,none⟩=some (I 0)∧W.cell? ⟨ab,3,none⟩=some (.slice (some ⟨gb,rB,none⟩) 2 gc)∧W.cell? ⟨ab,4,none⟩=some (.slice (some ⟨cb,uq,none⟩) 1 hc)∧W.cell? ⟨ab,5,none⟩=some (.slice sa 2 sc)∧W.cell? ⟨ab,9,none⟩=some (.slice da 0 dc)∧W.cell? ⟨ab,11,none⟩=some (.slice xa 0 xc)) (first|with_reducible exact hS|go_keep)
   (first
    |((first|(have X9:=ag (X.out);with_reducible refine LD.out _ _ _ _ _ _ _ _ X9.out rfl rfl (by simp[Act.eval,Act.put]) (by simp[Act.eval,Act.put]) ?_)|(have X9:=ag (X.out.drew);with_reducible refine LD.out _ _ _ _ _ _ _ _ X9.out rfl rfl (by simp[Act.eval,Act.put]) (by simp[Act.eval,Act.put]) ?_));intro hb cS wC hgC x Et;have X:=ag x;have hS:=Ao.out _ X.out.below;clear x hgC)
    |(refine zJ rfl (.const (.slice none 0 0)) (.tmp 27) 25 rfl underlying25 ki rfl da dc (by simp[Act.eval,Act.put]) ?_)
    |(refine zJ rfl (.const (.slice none 0 0)) (.tmp 30) 39 rfl underlying39 li rfl xa xc (by simp[Act.eval,Act.put]) ?_)
    |(go_at_call 80;(first|(have X9:=ag (X.out);with_reducible refine(HB.out _ _ X9.out).mono ?_)|(have X9:=ag (X.out.drew);with_reducible refine(HB.out _ _ X9.out).mono ?_));rintro e wB ⟨bB,gB,rfl,x⟩;have X:=ag x;have hS:=Ao.out _ X.out.below;clear x)
    |(go_at_call 81;(first|(have X9:=ag (X.out);with_reducible refine(HL.out _ _ X9.out).mono ?_)|(have X9:=ag (X.out.drew);with_reducible refine(HL.out _ _ X9.out).mono ?_));rintro e wL ⟨bL,gL,rfl,x⟩;have X:=ag x;have hS:=Ao.out _ X.out.below;clear x)
    |(go_at_call 82;(first|(have X9:=ag (X.out);with_reducible refine(RJ.out _ _ X9.out).mono ?_)|(have X9:=ag (X.out.drew);with_reducible refine(RJ.out _ _ X9.out).mono ?_));rintro e wD ⟨bD,gD,rfl,x⟩;have X:=ag x;have hS:=Ao.out _ X.out.below;clear x)
    | fail "no arm")
  obtain⟨bS,rfl⟩:∃b,hb=some b:=by
   cases hb with
   |none=>have:=(Et rfl).1;omega
   |some b=>exact⟨b,rfl⟩
  go_wp2_with fail
  go_meet;refine⟨_,bB,gB,bL,gL,bS,cS,bD,gD,rfl,?_⟩;have Y:=X.out.Og ((fp wD.heap.size wD).alloc cG (.cells #[I 2,I 1,I 0,.slice none 0 0,.pointer (some ⟨bB,0,none⟩),.slice none 0 0,.slice none 0 0,.pointer (some ⟨bL,0,none⟩),.pointer none,.slice (some ⟨bS,0,none⟩) 2 cS,.pointer none,.pointer (some ⟨bD,0,none⟩),.slice none 0 0,.slice none 0 0] 94)) .al wD.heap.size 0 [I 2,I 1,I 0,.slice none 0 0,.pointer (some ⟨bB,0,none⟩),.slice none 0 0,.slice none 0 0,.pointer (some ⟨bL,0,none⟩),.pointer none,.slice (some ⟨bS,0,none⟩) 2 cS,.pointer none,.pointer (some ⟨bD,0,none⟩),.slice none 0 0,.slice none 0 0] cG (fF (dP _ _) rfl (fun p h=>by simp[eI]at h));exact ag (Y.own (f:=ofF wD.heap.size bB gB bL gL bS cS bD gD) (fun k=>by cases k<;>first|exact .inl rfl|exact .inr rfl))
 case rest=>
  obtain⟨wb,bB,gB,bL,gL,bS,cS,bD,gD,rfl,HF⟩:=hcut;clear X X1 hS HB HL RJ LD;have HQ:=ag GU
  have HP:Hid (∀W,Below wA.heap.size wA W→Calls prog 131 #[I 2,I 1,.slice ca 2 cc,.slice ma 0 mc,I 0] W fun e w'=>∃b g q,e=.returned (.tuple #[.pointer (some ⟨b,0,none⟩),I 0])∧
    eh W.heap.size W w' [(.ar,some b,0,[I 2,I 1,.slice (some ⟨g,0,none⟩) 2 2,.slice none 0 0,I 0,.slice (some ⟨q,0,none⟩) 2 2]),(.aC,some g,2,[.slice none 0 0,.slice none 0 0]),(.bV,some q,2,[B false,B false])]):=fun W hb=>by
   obtain⟨cb,off,a0,c0,a1,c1,e3,dD,h3,h4⟩:=(HO.out.below hb).c;exact Gf ca ma a0 a1 cc mc c0 c1 W ⟨cb,off,e3,dD,h3,h4⟩
  obtain⟨_,_,_,_,_,s5,_,_⟩:=Ao.out _ HF.out.uw.1;go_upto_region 3 with(go_at_call 79;refine(HQ.out _).mono ?_;rintro e w3 ⟨bQ,gQ,qQ,rfl,a3⟩;have HF3:=ag (HF.out.aa6 a3);have c8:=HF3.out.cell (r:=.al) (b:=wb) (cp:=0) (j:=8) (by rfl) rfl;have f8:=HF3.out.frozen (r:=.al) (b:=wb) (cp:=0) (by rfl) 8;clear a3)
  have hf4:=HF3.out.set (r:=.al) (b:=wb) (cp:=0) (j:=8) (v:=.pointer (some ⟨bQ,0,none⟩)) (by rfl);obtain⟨w4,xX⟩:=dC (w3.setCell ⟨wb,8,none⟩ (.pointer (some ⟨bQ,0,none⟩)));rw[←xX]at hf4 ⊢;have HF4:=ag hf4;clear hf4 xX c8 f8 HF3 HF s5;obtain⟨s0,s1,_⟩:=Ao.out _ HF4.out.uw.1;obtain⟨s6,s7,s8,_⟩:=HSR.out _ HF4.out.uw.1;go_upto_region 4 with(go_at_call 131;refine(HP.out _ HF4.out.uw.1).mono ?_;rintro e w5 ⟨bP,gP,qP,rfl,a5⟩;have HF5:=ag (HF4.out.aa6 a5);have Fq:=HF5.out.cell (r:=.al) (b:=wb) (cp:=0) (j:=10) (by rfl) rfl;have f10:=HF5.out.frozen (r:=.al) (b:=wb) (cp:=0) (by rfl) 10;clear a5)
  have hf6:=HF5.out.set (r:=.al) (b:=wb) (cp:=0) (j:=10) (v:=.pointer (some ⟨bP,0,none⟩)) (by rfl);obtain⟨w6,Q6⟩:=dC (w5.setCell ⟨wb,10,none⟩ (.pointer (some ⟨bP,0,none⟩)));rw[←Q6]at hf6 ⊢;have HF6:Hid (eF wA.heap.size wA w6 (Ef wb bB gB bL gL bS cS bD gD bQ gQ qQ bP gP qP)):=ag (hf6.congr (fun k=>by cases k<;>rfl));clear hf6 Q6 Fq f10 HF5 HF4 s0 s1 s6 s7 s8 HQ HP;have HSK:Hid (∀W:World,Below w6.heap.size w6 W→Calls prog 132 #[.pointer (some ⟨bD,0,none⟩),I 0] W fun e w'=>e=.returned (.tuple #[])∧eF wA.heap.size wA w' (Ef wb bB gB bL gL bS cS bD gD bQ gQ qQ bP gP qP)):=fun W hb=>by have F:=HF6.out.eC hb;refine(JG bD _ 0 W (F.cell (r:=.gN) (cp:=0) (j:=0) (by rfl) rfl) (F.cell (r:=.gN) (cp:=0) (j:=1) (by rfl) rfl) (F.frozen (r:=.gN) (cp:=0) (by rfl) 1)).mono ?_;rintro e w' ⟨he,n,rfl⟩;refine⟨he,?_⟩;have G:eF wA.heap.size wA (W.drewN n) (Ef wb bB gB bL gL bS cS bD gD bQ gQ qQ bP gP qP):=F.eC ⟨rfl,rfl,rfl,Nat.le_refl _,fun b hb=>rfl⟩;exact G.same (r:=.gN) (cp:=0) (j:=1) (by rfl) rfl
  have ZI:=HF6.out.cell (r:=.al) (b:=wb) (cp:=0) (j:=11) (by rfl) rfl;obtain⟨_,_,_,V1⟩:=HSR.out _ HF6.out.uw.1
  go_region_held3 (fun W=>W.cell? ⟨wb,11,none⟩=some (.pointer (some ⟨bD,0,none⟩))∧W.cell? ⟨ab,10,none⟩=some (I 0)) (first|exact⟨ZI,V1⟩|go_keep)
   (first
    |(go_at_call 132;refine(HSK.out _ ?_).mono ?_;exact(fp _ _).drew;rintro e w7 ⟨rfl,hf⟩;have US:=ag hf;have ZI:=hf.cell (r:=.al) (b:=wb) (cp:=0) (j:=11) (by rfl) rfl;obtain⟨_,_,_,V1⟩:=HSR.out _ hf.uw.1;clear hf)
    | fail "no arm")
  clear HSK HF6 HSR;obtain⟨_,_,_,s3,s4,_,_,_⟩:=Ao.out _ US.out.uw.1;go_wp2_with fail
  have GV:Below w.heap.size w wA:=HW.out.2.2;have HGA:Hid (∀(j:Nat) l,ev[j]?=some l→∃oa oc b1 d1 b2 d2 b3 d3 b4 d4,∀W,Below wA.heap.size wA W→(∀q v,(gA l oa oc b1 d1 b2 d2 b3 d3 b4 d4)[q]?=some v→W.cell? ⟨gb,rB+j*25+q,none⟩=some v)∧kC W oa l):=fun j l hl=>by obtain⟨oa,oc,b1,d1,b2,d2,b3,d3,b4,d4,k1,k2⟩:=oR.out j l hl;refine⟨oa,oc,b1,d1,b2,d2,b3,d3,b4,d4,fun W hb=>?_⟩;have hB:=GV.trans (hb.mono (by have:=HW.out.1;have:=HW.out.2.1;omega));exact⟨fun q v hv=>cw hB cG _ _ (k1 q v hv),k2.below hB cG⟩
  have h0:Hid (∃f B K C,Ny wA.heap.size wA w7 (Ef wb bB gB bL gL bS cS bD gD bQ gQ qQ bP gP qP) (fun v=>[I 2,I 1,I 0,v,.pointer (some ⟨bB,0,none⟩),.slice none 0 0,.slice none 0 0,.pointer (some ⟨bL,0,none⟩),.pointer (some ⟨bQ,0,none⟩),.slice (some ⟨bS,0,none⟩) 2 cS,.pointer (some ⟨bP,0,none⟩),.pointer (some ⟨bD,0,none⟩),.slice none 0 0,.slice none 0 0]) wb ev 0 (.slice none 0 0) f B K C):=
   ⟨_,(fun _ _=>none),(fun _ _=>0),(fun _ _=>[]),US.out,rfl,rfl,rfl,fun i l h=>by omega,fun i q h=>by omega,fun i l q o h=>by omega,fun i l q h=>by omega,fun i h=>⟨rfl,fun q=>rfl⟩,fun k _ _ _ _=>rfl⟩
  clear US ZI V1 GV;go_loopw [73] (fun i wr=>∃(j:Nat) (va:Option Addr) (vc:Nat),i=.int .i64 j∧j≤2∧Hid (∃f B K C,Ny wA.heap.size wA wr (Ef wb bB gB bL gL bS cS bD gD bQ gQ qQ bP gP qP) (fun v=>[I 2,I 1,I 0,v,.pointer (some ⟨bB,0,none⟩),.slice none 0 0,.slice none 0 0,.pointer (some ⟨bL,0,none⟩),.pointer (some ⟨bQ,0,none⟩),.slice (some ⟨bS,0,none⟩) 2 cS,.pointer (some ⟨bP,0,none⟩),.pointer (some ⟨bD,0,none⟩),.slice none 0 0,.slice none 0 0]) wb ev j (.slice va j vc) f B K C)) (fun i _=>2-(intOf i).toNat)
  case atStart=>exact⟨0,none,0,rfl,by omega,h0⟩
  case round=>
   clear h0;obtain⟨j,va,vc,rfl,hj,HG⟩:=hrel;by_cases dD:j<2
   ·skip;obtain⟨l,hl⟩:∃l,ev[j]?=some l:=⟨_,fv dD⟩;obtain⟨f,fB,fK,fC,G⟩:=HG.out;obtain⟨oa,oc,b1,d1,b2,d2,b3,d3,b4,d4,jF⟩:=HGA.out j l hl;obtain⟨A,hA⟩:=dC (gA l oa oc b1 d1 b2 d2 b3 d3 b4 d4);have KX:Hid (A.size=25):=(by rw[hA];exact ag rfl);have ri:Hid (A.all (·.oneCell')=true):=(by rw[hA];exact ag (by simp[gA,Value.oneCell']));have RX:Hid (A[0]?=some (.slice oa l.length oc)∧A[20]?=some (.slice b1 0 d1)∧A[21]?=some (.slice b2 0 d2)∧A[22]?=some (.slice b3 0 d3)∧A[23]?=some (.slice b4 0 d4)∧A[3]?=some (I 0)∧A[4]?=some (B false)∧∀v,qh A v (.slice none 0 0) (.slice none 0 0) (.slice none 0 0) (.slice none 0 0)=(oX v).toArray):=(by rw[hA];exact ag ⟨rfl,rfl,rfl,rfl,rfl,rfl,rfl,fun v=>rfl⟩);rw[←hA]at jF;have CZ:=ag jF;have ja:=G.own.uw;have HGC:Hid (∀q v,A[q]?=some v→wr.cell? ⟨gb,rB+j*25+q,none⟩=some v):=(CZ.out wr ja.1).1;have sJ:=ag G;have HLL:=ag hl;clear jF hA HG;go_upto_region 7 with fail
    repeat(fail_if_success (refine wpList_load_mid rfl 100 (.tmp 76) rfl gb (rB+j*25) rfl A ?_ ?_ ?_ ?_));go_step
    refine wpList_load_mid rfl 100 (.tmp 76) rfl gb (rB+j*25) rfl A HGC.out mC (by rw[KX.out];exact fE) ?_;repeat(fail_if_success (refine df rfl 100 (.tmp 5) (.tmp 77) rfl wr.heap.size rfl _ A rfl rfl ?_ ?_ ?_ ?_));go_step
    refine df rfl 100 (.tmp 5) (.tmp 77) rfl wr.heap.size rfl _ A rfl rfl (by rw[KX.out];exact fE) (by rw[KX.out];rfl) ri.out ?_;go_upto_region 8 with fail
    obtain⟨w1,jk⟩:=dC (wr.alloc (.cells A 100));obtain⟨mb,ny⟩:∃b,b=wr.heap.size:=⟨_,rfl⟩;rw[←jk,←ny];have gq:Below wr.heap.size wr w1:=(by rw[jk];exact(fp _ _).alloc cG _);have eE:w1.heap[mb]?=some (.cells A 100 (0,0)):=(by rw[jk,ny];exact dP _ _);have rh:w1.heap.size=mb+1:=(by rw[jk,ny];simp);have m3:w1.cell? ⟨mb,3,none⟩=some (I 0):=(by rw[cr _ _ _ _ _ _ eE];exact RX.out.2.2.2.2.2.1);have m4:w1.cell? ⟨mb,4,none⟩=some (B false):=(by rw[cr _ _ _ _ _ _ eE];exact RX.out.2.2.2.2.2.2.1);have hF1:=sJ.out.own.eC gq;have c4:=hF1.cell (j:=4) sJ.out.al rfl;have hfS:f .dB=some (some bB,0,[.slice (some ⟨gB,0,none⟩) 2 2]):=sJ.out.N7 .dB (by simp) (by simp) (fun i=>by simp) (fun i q=>by simp);have Xo:f .ax=some (some gB,2,bT ry 0 (List.replicate 2 (0,false))):=sJ.out.N7 .ax (by simp) (by simp) (fun i=>by simp) (fun i q=>by simp);have hgm:gB<mb:=by rw[ny];exact(sJ.out.own.lt Xo).2
    have pI:Hid (∀W,Below w1.heap.size w1 W→Calls prog 133 #[.pointer (some ⟨bB,0,none⟩),I j,I 0,.bool false] W fun e w'=>e=.returned (.bool true)∧eF wA.heap.size wA w' f∧w'.heap[mb]?=some (.cells A 100 (0,0))∧mb<w'.heap.size):=fun W hb=>by
     have F:=hF1.eC hb;have q1:(bT ry 0 (List.replicate 2 ((0:Int),false)))[j*2]?=some (I 0):=(by rcases(show j=0∨j=1 by omega)with rfl|rfl<;>rfl);have q2:(bT ry 0 (List.replicate 2 ((0:Int),false)))[j*2+1]?=some (B false):=(by rcases(show j=0∨j=1 by omega)with rfl|rfl<;>rfl);refine(MZ bB gB j 2 W (F.cell (j:=0) hfS rfl) dD (F.cell (j:=j*2) Xo q1) (F.cell (j:=j*2+1) Xo q2) (F.frozen Xo)).mono ?_;rintro e w' ⟨he,rfl⟩;refine⟨he,(F.same Xo q1).same Xo q2,?_,?_⟩
     ·rw[fQ _ _ _ _ (by simp;omega),fQ _ _ _ _ (by simp;omega),hb.block mb (by omega)];exact eE
     ·have:=hb.size;simp[World.setCell];omega
    have Zz:Hid (mb=wr.heap.size):=ny;clear jk gq eE rh hF1 hfS Xo hgm ja HGC ny
    go_region_held3 (fun W=>W.cell? ⟨wb,4,none⟩=some (.pointer (some ⟨bB,0,none⟩))∧W.cell? ⟨mb,3,none⟩=some (I 0)∧W.cell? ⟨mb,4,none⟩=some (B false)) (first|exact⟨c4,m3,m4⟩|go_keep)
     (first
      |(go_at_call 133;refine(pI.out _ ?_).mono ?_;exact(fp _ _).drew;rintro e w2 ⟨rfl,hf,hx,hsz⟩;have c4:=hf.cell (j:=4) sJ.out.al rfl;have m3:w2.cell? ⟨mb,3,none⟩=some (I 0):=(by rw[cr _ _ _ _ _ _ hx];exact RX.out.2.2.2.2.2.1);have m4:w2.cell? ⟨mb,4,none⟩=some (B false):=(by rw[cr _ _ _ _ _ _ hx];exact RX.out.2.2.2.2.2.2.1);have Rt:=ag (dO hf (dO hx hsz));clear hf hx hsz)
      | fail "no arm")
    have tP:Hid (Calls prog 49 #[.agg A] w2 fun e w'=>∃la ln lc A2,e=.returned (.agg A2)∧A2=(NC la ln lc)∧∃aV cap c,.slice la ln lc=nG (aV (some (.ops 0))) l.length (cap (some (.ops 0)))∧JD w2 w' l aV cap c):=(by refine(GK A KX.out ri.out l oa oc RX.out.1 (uo l (lf HLL.out)) b1 b2 b3 b4 d1 d2 d3 d4 RX.out.2.1 RX.out.2.2.1 RX.out.2.2.2.1 RX.out.2.2.2.2.1 w2 (CZ.out w2 Rt.out.1.uw.1).2).mono ?_;rintro e w' ⟨aV,cap,c,rfl,hR⟩;obtain⟨la,ln,lc,hm⟩:=Cq (aV (some (.ops 0))) l.length (cap (some (.ops 0)));rw[hm,RX.out.2.2.2.2.2.2.2];exact⟨la,ln,lc,_,rfl,rfl,aV,cap,c,hm.symm,hR⟩);clear pI c4 m3 m4 CZ;go_upto_region 9 with fail
    refine wp_region_lit ?_;refine wpList_load_mid rfl 100 (.tmp 5) rfl mb 0 rfl A (fun q v hq=>by rw[Nat.zero_add,cr _ _ _ _ _ _ Rt.out.2.1];exact hq) mC (by rw[KX.out];exact fE) ?_
    go_upto_region 10 with(first
     |(go_at_call 49;refine tP.out.mono ?_;rintro e w3 ⟨la,ln,lc,A2,rfl,Lf,hR⟩;have nM:w3.heap[mb]?=some (.cells A 100 (0,0)):=(by obtain⟨aV,cap,c,_,hR⟩:=hR;exact(hR.own.below.block mb Rt.out.2.2).trans Rt.out.2.1);have SB:=ag (dO hR nM);have nx:=ag Lf;clear hR nM Lf)
     |(refine cB rfl 100 (.tmp 5) (.tmp 89) rfl mb 0 A2 rfl rfl (by rw[nx.out];exact fE) (fun q hq=>by rw[cr _ _ _ _ _ _ SB.out.2,Nat.zero_add,xL (by rw[KX.out];rw[nx.out]at hq;exact hq)];rfl) (fun q hq=>iM _ _ _ _ _ SB.out.2) (by rw[nx.out];simp[Value.oneCell']) ?_)
     |fail)
    obtain⟨w4,xX⟩:=dC (w3.setCells mb 0 A2.toList);rw[←xX];obtain⟨aV,cap,c,hm,hR⟩:=SB.out.1;have vB:w4.heap[mb]?=some (.cells A2 100 (0,0)):=(by rw[xX];exact dI SB.out.2 (by rw[KX.out,nx.out];rfl));have hlm:wA.heap.size≤mb:=(by rw[Zz.out];exact sJ.out.own.uw.2);have hn:∀k b q ys,iK j f aV cap c k=some (some b,q,ys)→b≠mb:=(by rw[Zz.out];exact sJ.out.aa7 hR.own (by rw[←Zz.out];exact Rt.out.2.2));have hF3:eF wA.heap.size wA w3 (iK j f aV cap c):=Rt.out.1.clone hR.own;have hF4:eF wA.heap.size wA w4 (iK j f aV cap c):=(by rw[xX];exact eF.KD hF3 hn hlm _ _ _ hF3);have y3:w4.cell? ⟨mb,3,none⟩=some (I 0):=(by rw[cr _ _ _ _ _ _ vB,nx.out];rfl);have y4:w4.cell? ⟨mb,4,none⟩=some (B false):=(by rw[cr _ _ _ _ _ _ vB,nx.out];rfl);have yf3:=iM w4 mb 3 _ _ vB;have yf4:=iM w4 mb 4 _ _ vB;have H4:=ag (dO vB (dO hlm (dO hn hF4)));have Bg:=ag (dO hm hR);clear xX vB hlm hn hF3 hF4 SB tP hm hR;go_upto_region 11 with fail
    obtain⟨w5,Ha⟩:=dC ((w4.setCell ⟨mb,3,none⟩ (I 0)).setCell ⟨mb,4,none⟩ (B false));rw[←Ha];have RL:w5.heap[mb]?=some (.cells (NC la ln lc) 100 (0,0)):=(by have h:=heap_setCell_same _ mb 4 _ 100 (B false) (heap_setCell_same _ mb 3 _ 100 (I 0) H4.out.1);rw[Ha,h,nx.out];rfl);have Xp:eF wA.heap.size wA w5 (iK j f aV cap c):=(by rw[Ha];exact(H4.out.2.2.2.others H4.out.2.2.1 H4.out.2.1 3 _).others H4.out.2.2.1 H4.out.2.1 4 _);have c3:=Xp.cell (r:=.al) (b:=wb) (cp:=0) (j:=3) sJ.out.al rfl;have Yg:=Xp.frozen (r:=.al) (b:=wb) (cp:=0) sJ.out.al 3;have lwb:=(Xp.lt (r:=.al) (b:=wb) (cp:=0) sJ.out.al).2;have Yh:=ag (sJ.out.WL (by show j≤2;omega) Xp);have M0:wA.heap.size≤w5.heap.size:=Xp.uw.2;have H5:=ag Xp;clear Ha Xp y3 y4 yf3 yf4 H4
    have NA:Hid ((Value.slice va j vc).ownBlock≠some wb):=by
     refine ag ?_;rw[sJ.out.cU,gV];intro e;have:=cN.inj sJ.out.own .gs .al wb e (by simp only[sJ.out.al];rfl)
     cases this
    refine GL (aJ:=_) (by kernel_rfl) RL c3 Yg lwb Yh.out M0 hj NA.out _ _ _ _ _ _ _ _ _ _ _ _ _ _ _ _ _ _ _ _ _ _ _ _ _ _ _ _ _ _ _ _ _ _ _ _ _ _ _ _ _ _ _ _ _ _ _ _ _ _ _ _ _ _ _ _ _ _ _ _ _ _ _ _ _ _ _ _ _ _ _ _ _ _ _ _ _ _ _ _ _ _ _ _ _ _ _ _ _ _ _ _ _ _ _ _ _ _ _ _ _ _ _ _ _ _ _ _ _ _ _ _ _ _ _ _ (fun _ _ _ _ _ h=>h) ?_;intro u92 u93 u94 u95 u96 u97 u98 u99 ag2 PW w9 gg hU jl kz bE;have HN:Hid (∃f B K C,Ny wA.heap.size wA (w9.setCell ⟨wb,3,none⟩ (.slice (some ⟨gg,0,none⟩) (j+1) hU)) (Ef wb bB gB bL gL bS cS bD gD bQ gQ qQ bP gP qP) (fun v=>[I 2,I 1,I 0,v,.pointer (some ⟨bB,0,none⟩),.slice none 0 0,.slice none 0 0,.pointer (some ⟨bL,0,none⟩),.pointer (some ⟨bQ,0,none⟩),.slice (some ⟨bS,0,none⟩) 2 cS,.pointer (some ⟨bP,0,none⟩),.pointer (some ⟨bD,0,none⟩),.slice none 0 0,.slice none 0 0]) wb ev (j+1) (.slice (some ⟨gg,0,none⟩) (j+1) hU) f B K C):=(by refine Ny.push sJ.out HLL.out (H5.out.alloc (.cells (NC la ln lc) 100)) Bg.out.2.row Bg.out.2.cs (fun q hq=>Bg.out.2.own.none_ _ (Bg.out.2.less q hq)) kz ?_ (by simpa using bE) (fun _ _=>rfl);rw[←Bg.out.1];exact jl);clear jl kz bE Yh H5 c3 Yg sJ Bg M0 RL NA;go_wp2;go_roundw
    case rel=>exact⟨j+1,_,_,by go_num,by omega,HN⟩
    case measure=>simp[intOf];omega
   ·obtain rfl:j=2:=by omega
    obtain⟨f,fB,fK,fC,G⟩:=HG.out;have hbG:=G.own.uw;obtain⟨F,m,hFw,R⟩:=Xn G;have GV:Below w.heap.size w wr:=HW.out.2.2.trans (hbG.1.mono (by have:=HW.out.1;have:=HW.out.2.1;omega));have h0:Hid (∃m,bz wA.heap.size F wr m wO∧Below w.heap.size w wr):=⟨m,R,GV⟩;obtain⟨_,_,_,_,s4,_,_,_⟩:=Ao.out _ hbG.1;have TD:=ag hFw;clear G R hbG GV HG HGA hFw;go_wp2_with fail
    go_loopw [106] (fun i wr=>∃k:Nat,i=.int .i64 k∧k≤1∧Hid (∃m,bz wA.heap.size F wr m (if k=0 then wO else pV)∧Below w.heap.size w wr)) (fun i _=>1-(intOf i).toNat)
    case atStart=>exact⟨0,rfl,by omega,h0⟩
    case round=>
     clear h0 s4;obtain⟨k,rfl,hk,HR⟩:=hrel;by_cases dD:k<1
     ·obtain rfl:k=0:=by omega
      obtain⟨m1,R1,gq⟩:=HR.out;have R1:bz wA.heap.size F wr m1 wO:=R1;have HQC:Hid (∀q v,(#[I 0,.slice none 0 0,B false,I (-1),.slice none 0 0,.slice none 0 0]:Array Value)[q]?=some v→wr.cell? ⟨cb,uq+q,none⟩=some v):=fun q v hv=>cw gq cG _ _ (HCX.out q v hv)
      obtain⟨w1,jk⟩:=dC (wr.alloc (.cells #[I 0,.slice none 0 0,B false,I (-1),.slice none 0 0,.slice none 0 0] 59));obtain⟨cx,Yq⟩:∃b,b=wr.heap.size:=⟨_,rfl⟩;have hbb:Below wr.heap.size wr w1:=(by rw[jk];exact(fp _ _).alloc cG _);have eE:w1.heap[cx]?=some (.cells #[I 0,.slice none 0 0,B false,I (-1),.slice none 0 0,.slice none 0 0] 59 (0,0)):=(by rw[jk,Yq];exact dP _ _);have R2:=R1.below hbb;have HAC:Hid (Calls prog 134 #[.pointer (some ⟨wb,0,none⟩),I 1,.agg #[I 0,.slice none 0 0,B false,I (-1),.slice none 0 0,.slice none 0 0]] w1 fun e w'=>e=.returned (.tuple #[])∧∃m,bz wA.heap.size F w' m pV∧Below w.heap.size w w'):=(by rw[←TD.out];refine(D7 R2 rfl rfl (by decide)).mono ?_;rintro e w' ⟨he,m3,A⟩;refine⟨he,m3,A.bj,?_⟩;have CM:=gq.trans (hbb.mono gq.size);have hle:w.heap.size≤wA.heap.size:=HW.out.2.2.size;refine⟨A.mv.os.trans CM.os,A.mv.tape.trans CM.tape,A.mv.output.trans CM.output,jm CM.size A.mv.size,fun b hb=>?_⟩;rw[A.mv.keep b (by have:=CM.size;omega) (fun r e=>by have:=(R2.lies r b e).1;omega)];exact CM.block b hb);have jc:=ag eE;clear R1 R2 gq hbb eE HR;go_upto_region 15 with fail
      repeat(fail_if_success (refine wpList_load_mid rfl 59 (.tmp 109) rfl cb uq rfl #[I 0,.slice none 0 0,B false,I (-1),.slice none 0 0,.slice none 0 0] ?_ ?_ ?_ ?_));go_step
      refine wpList_load_mid rfl 59 (.tmp 109) rfl cb uq rfl #[I 0,.slice none 0 0,B false,I (-1),.slice none 0 0,.slice none 0 0] HQC.out Vj JP ?_;repeat(fail_if_success (refine df rfl 59 (.tmp 7) (.tmp 110) rfl wr.heap.size rfl _ #[I 0,.slice none 0 0,B false,I (-1),.slice none 0 0,.slice none 0 0] rfl rfl ?_ ?_ ?_ ?_));go_step
      refine df rfl 59 (.tmp 7) (.tmp 110) rfl wr.heap.size rfl _ #[I 0,.slice none 0 0,B false,I (-1),.slice none 0 0,.slice none 0 0] rfl rfl JP rfl (by simp[Value.oneCell']) ?_;go_upto_region 16 with fail
      rw[←jk,←Yq];clear jk Yq HQC;repeat(fail_if_success (refine wpList_load_mid rfl 59 (.tmp 7) rfl cx 0 rfl #[I 0,.slice none 0 0,B false,I (-1),.slice none 0 0,.slice none 0 0] ?_ ?_ ?_ ?_));go_step
      refine wpList_load_mid rfl 59 (.tmp 7) rfl cx 0 rfl #[I 0,.slice none 0 0,B false,I (-1),.slice none 0 0,.slice none 0 0] (fun q v hq=>by rw[Nat.zero_add,cr _ _ _ _ _ _ jc.out];exact hq) Vj JP ?_;go_wp2_with (go_at_call 134;refine HAC.out.mono ?_;rintro e w2 ⟨rfl,hR⟩;have Ou:=ag hR;clear hR);go_roundw
      case rel=>exact⟨_,_,_,_,_,_,_,_,_,_,_,_,_,⟨1,rfl,by omega,Ou⟩,rfl⟩
      case measure=>simp[intOf]
     ·obtain rfl:k=1:=by omega
      go_wp2;go_ret;obtain⟨m,R,hb⟩:=HR.out;have hB:=HW.out;have hs:wA.heap.size=w.heap.size+1:=(by rw[hB.2.1,hB.1]);exact⟨F,m,by rw[TD.out];rfl,by rw[←hs];exact R,hb⟩
theorem JQ(ga ha sa ca ma da xa:Option Addr)(gc hc sc cc mc dc xc:Nat)(w:World)(H:Cs w ga ha sa ca):Calls prog 41 #[.agg #[I 2,I 1,I 0,.slice ga 2 gc,.slice ha 1 hc,.slice sa 2 sc,.slice ca 2 cc,.slice ma 0 mc,I 0,.slice da 0 dc,I 0,.slice xa 0 xc]] w fun e w'=>∃F m eb,e=.returned (.pointer (some ⟨eb,0,none⟩))∧bz (w.heap.size+2) F w' m pV∧Below w.heap.size w w'∧w'.heap[eb]?=some (.cells #[.pointer (some ⟨F.al,0,none⟩)] 78 (0,0))∧w.heap.size≤eb∧∀r,m.aV r≠some eb:=by
 obtain⟨w1,jk⟩:=dC (w.alloc (.cells #[I 2,I 1,I 0,.slice ga 2 gc,.slice ha 1 hc,.slice sa 2 sc,.slice ca 2 cc,.slice ma 0 mc,I 0,.slice da 0 dc,I 0,.slice xa 0 xc] 41));have hB:Below w.heap.size w w1:=by rw[jk];exact(fp _ _).alloc cG _
 have rh:w1.heap.size=w.heap.size+1:=by rw[jk];simp
 have eE:w1.heap[w.heap.size]?=some (.cells #[I 2,I 1,I 0,.slice ga 2 gc,.slice ha 1 hc,.slice sa 2 sc,.slice ca 2 cc,.slice ma 0 mc,I 0,.slice da 0 dc,I 0,.slice xa 0 xc] 41 (0,0)):=by rw[jk];exact dP _ _
 have HC:=ag (Un ga ha sa ca ma da xa gc hc sc cc mc dc xc w1 (H.below hB));rw[rh]at HC;have HX:=ag (dO eE (dO hB rh));clear H hB rh eE;go_enter func41,ntmps41;go_upto_region 1 with fail
 rw[←jk];clear jk;refine wp_region_lit ?_;refine wpList_load_mid rfl 41 (.tmp 1) rfl w.heap.size 0 rfl #[I 2,I 1,I 0,.slice ga 2 gc,.slice ha 1 hc,.slice sa 2 sc,.slice ca 2 cc,.slice ma 0 mc,I 0,.slice da 0 dc,I 0,.slice xa 0 xc] (fun q v hq=>by rw[Nat.zero_add,cr _ _ _ _ _ _ HX.out.1];exact hq) uV jB ?_;go_wp2_with (go_at_call 74;refine HC.out.mono ?_;rintro e w2 ⟨F,m,rfl,R,hb⟩;have HR:=ag (dO R hb);clear R hb);go_ret;obtain⟨R,hb⟩:=HR.out;have hB:=HX.out.2.1;have hs:=HX.out.2.2;have mz:Below w.heap.size w w2:=hB.trans (hb.mono (by omega));refine⟨F,m,w2.heap.size,rfl,R.below ((fp _ _).alloc cG _),mz.alloc mz.size _,dP _ _,mz.size,fun r e=>?_⟩;have:=R.lt e;omega
theorem GW(w:World):Calls prog 39 #[I 0] w (eL (.bool false) fun w'=>w=w'):=by
 go_enter func39,ntmps39;go_wp2;go_ret;exact⟨rfl,rfl⟩
theorem GX(b c:Nat)(w:World)(h:w.cell? ⟨b,0,none⟩=some (I 0)):Calls prog 73 #[.slice (some ⟨b,0,none⟩) 1 c,.func (.func 39) #[] #[]] w (eL (I (-1)) fun w'=>w=w'):=by
 have HI:=ag GW;go_enter func73,ntmps73;go_wp2;go_loopw [4,5,8] (fun r v i wr=>∃k:Nat,i=.int .i64 k∧k≤1∧wr=w) (fun r v i _=>1-(intOf i).toNat)
 case atStart=>exact⟨0,rfl,by omega,rfl⟩
 case round=>
  obtain⟨k,rfl,hk,rfl⟩:=hrel;by_cases dD:k<1
  ·obtain rfl:k=0:=by omega
   go_wp2_with (go_at_call 39;refine(HI.out _).mono ?_;rintro e w2 ⟨rfl,rfl⟩);go_roundw
   case rel=>exact⟨1,rfl,by omega,trivial⟩
   case measure=>simp[intOf]
  ·obtain rfl:k=1:=by omega
   go_wp2;go_ret;exact⟨rfl,rfl⟩
theorem Am(b c:Nat)(w:World)(h:w.cell? ⟨b,0,none⟩=some (I 0)):Calls prog 40 #[.slice (some ⟨b,0,none⟩) 1 c,.func (.func 39) #[] #[]] w (eL (.bool false) fun w'=>w=w'):=by
 have HI:=ag (GX b c w h);clear h;go_enter func40,ntmps40;go_wp2_with (go_at_call 73;refine HI.out.mono ?_;rintro e w2 ⟨rfl,rfl⟩);go_ret;exact⟨rfl,rfl⟩
theorem KY{n:Nat}:∀(As:List (List Value)) (j q:Nat) (A:List Value),(∀A∈As,A.length=n)→As[j]?=some A→q<n→As.flatten[j*n+q]?=A[q]?
 | [],j,q,A,_,h,_=>by cases h
 |B::As,0,q,A,hl,h,hq=>by simp at h;subst h;rw[List.flatten_cons,Ev (by rw[hl B (rn ..)];omega),Nat.zero_mul,Nat.zero_add]
 |B::As,j+1,q,A,hl,h,hq=>by have hB:=hl B (rn ..);rw[List.flatten_cons,Ew (by rw[hB,Nat.add_mul];omega),hB,show(j+1)*n+q-n=j*n+q by rw[Nat.add_mul];omega];exact KY As j q A (fun C hC=>hl C (nO _ hC)) (by simpa using h) hq
theorem Uo{w:World}{b j:Nat}{v:Value}(h:w.cell? ⟨b,j,none⟩=some v):b<w.heap.size:=by
 rcases Nat.lt_or_ge b w.heap.size with h1|h1
 ·exact h1
 ·simp[World.cell?,Array.getElem?_eq_none h1]at h
theorem Ri{ls:List (List Nat)}{w2 w3 W:World}{sa ma da xa ga ca ha0:Option Addr}{As:List (List Value)}{Vs:List Value}{Ds:List (List Value)}(H:yS (V.gj ev 2 1 []) ls w2 w3 sa ma da xa ga ca ha0 As Vs Ds)(hK:lO w2.heap.size w3 W){hb:Nat}(hc:∀(q:Nat) v,(#[I 0,.slice none 0 0,B false,I (-1),.slice none 0 0,.slice none 0 0]:Array Value)[q]?=some v→W.cell? ⟨hb,q,none⟩=some v):Cs W ga (some ⟨hb,0,none⟩) sa ca:=by
 have hla:As.length=2:=H.la;have hlv:Vs.length=2:=H.lv;have P:=H.rd W hK;obtain⟨gb,rB,rfl,hg⟩:=H.gs W hK (by show 0<2;omega);obtain⟨cb,uq,rfl,hca⟩:=H.aC W hK (by show 0<2;omega)
 have Rj:∀j,j<2→∃a c,W.cell? ⟨cb,uq+j,none⟩=some (.slice a 0 c):=fun j hj=>by
  obtain⟨v,hv⟩:∃v,Vs[j]?=some v:=⟨_,fv (by omega)⟩;obtain⟨x,hx⟩:∃x,(V.gj ev 2 1 []).ar.aC[j]?=some x:=⟨_,fv (by show j<2;exact hj)⟩;obtain⟨a,cp,rfl,_⟩:=P.aC j x v hx hv;have Hm:x=[]:=by have hx:([[],[]]:List (List Int))[j]?=some x:=hx;rcases(show j=0∨j=1 by omega)with rfl|rfl<;>(simp at hx;exact hx)
  subst Hm;exact⟨a,cp,hca j _ hv⟩
 obtain⟨a0,c0,k0⟩:=Rj 0 (by omega);obtain⟨a1,c1,k1⟩:=Rj 1 (by omega);refine⟨⟨gb,rB,rfl,fun j l hl=>?_⟩,⟨hb,0,rfl,fun q v hv=>by rw[Nat.zero_add];exact hc q v hv⟩,P.Rw,⟨cb,uq,a0,c0,a1,c1,rfl,Uo k0,k0,k1⟩⟩;have hj:j<2:=cA hl;obtain⟨A,hA⟩:∃A,As[j]?=some A:=⟨_,fv (by omega)⟩;have hx:(V.gj ev 2 1 []).gs[j]?=some (V.jQ l):=by show(ev.map V.jQ)[j]?=_;rw[na,hl];rfl
 obtain⟨oa,oc,b1,d1,b2,d2,b3,d3,b4,d4,hAA,jF,_⟩:=P.gs j _ A hx hA;have jf:bU (V.gj ev 2 1 []).ax j=0∧token (V.gj ev 2 1 []).ax j=false:=by rcases(show j=0∨j=1 by omega)with rfl|rfl<;>exact⟨rfl,rfl⟩
 rw[jf.1,jf.2]at hAA;refine⟨oa,oc,b1,d1,b2,d2,b3,d3,b4,d4,fun q v hv=>?_,jF⟩;have hq:q<25:=(dh hv).1;have:=hg (j*25+q) v (by rw[KY As j q A H.a25 hA hq,hAA];have e:(yP (V.jQ l) 0 false (.slice oa (V.jQ l).ops.length oc) (.slice b1 (V.jQ l).aH.length d1) (.slice b2 (V.jQ l).aq.length d2) (.slice b3 (V.jQ l).bA.length d3) (.slice b4 (V.jQ l).wakes.length d4))=(gA l oa oc b1 d1 b2 d2 b3 d3 b4 d4).toList:=rfl;rw[e];simpa using hv);rw[←Nat.add_assoc]at this;exact this
theorem GY{af eb:Nat}{F:Fx}{w2:World}{m:Mem}(R:bz af F w2 m (V.gj ev 2 1 []))(he:w2.heap[eb]?=some (.cells #[.pointer (some ⟨F.al,0,none⟩)] 78 (0,0))):Calls prog 10 #[.pointer (some ⟨eb,0,none⟩)] w2 fun e w'=>∃ls sa sc ma mc da dc xa xc ga gc ca cc As Vs Ds,e=.returned (.agg #[I 2,I 1,I 0,.slice ga 2 gc,.slice none 0 0,.slice sa 2 sc,.slice ca 2 cc,.slice ma 0 mc,I 0,.slice da 0 dc,I 0,.slice xa 0 xc])∧yS (V.gj ev 2 1 []) ls w2 w' sa ma da xa ga ca none As Vs Ds:=by
 obtain⟨ls,hs⟩:=(V.wI vx (N:=2) (by omega) (most:=1) (by omega) [] (by decide)).Um uo (by omega);refine(pU R hs he).mono ?_;rintro e w' ⟨sa,sc,ma,mc,da,dc,xa,xc,ga,gc,ca,cc,ha,hc,As,Vs,Ds,rfl,hr,h0⟩;obtain⟨rfl,rfl⟩:=h0 rfl;exact⟨ls,sa,sc,ma,mc,da,dc,xa,xc,ga,gc,ca,cc,As,Vs,Ds,rfl,hr⟩
theorem M9(a:Option Addr)(c b:Nat)(w:World)(hp:eW w a ev)(yU:w.cell? ⟨b,0,none⟩=some (I 0)):Calls prog 20 #[.slice a 2 c,.agg #[I 2,I 1],.slice none 0 0,.slice (some ⟨b,0,none⟩) 1 1] w fun e w'=>∃F m eb lo,e=.returned (.tuple #[.pointer (some ⟨eb,0,none⟩),I 0])∧bz lo F w' m pV∧w.heap.size≤lo∧Below w.heap.size w w'∧w'.heap[eb]?=some (.cells #[.pointer (some ⟨F.al,0,none⟩)] 78 (0,0))∧w.heap.size≤eb∧∀r,m.aV r≠some eb:=by
 obtain⟨i5,yi,yz0,yz1,yz2⟩:=info_parts Tryz.Kf;have CM:Below w.heap.size w (w.alloc (.cells #[I 2,I 1] 24)):=(fp _ _).alloc cG _;have HN:Hid (Calls prog 23 #[.slice a 2 c,.agg #[I 2,I 1],.slice none 0 0] (w.alloc (.cells #[I 2,I 1] 24)) fun e w'=>∃F m eb,e=.returned (.tuple #[.pointer (some ⟨eb,0,none⟩),I 0])∧bz ((w.alloc (.cells #[I 2,I 1] 24)).heap.size+1) F w' m (V.gj ev 2 1 [])∧Below w.heap.size w w'∧w'.heap[eb]?=some (.cells #[.pointer (some ⟨F.al,0,none⟩)] 78 (0,0))):=by refine(Ai ev 2 rfl a c 2 1 [] 0 rfl none 0 (w.alloc (.cells #[I 2,I 1] 24)) (hp.below CM cG) (by decide) (by decide) ⟨by decide,fun h=>by simp at h⟩ (by omega) (fun z hz=>by cases hz)).mono ?_;rintro e w' ⟨F,m,eb,rfl,R,hb,he,_,_⟩;exact⟨F,m,eb,rfl,R,CM.trans (hb.mono (by simp)),he⟩
 have XP:Hid (∀W,Below w.heap.size w W→Calls prog 40 #[.slice (some ⟨b,0,none⟩) 1 1,.func (.func 39) #[] #[]] W fun e w'=>e=.returned (.bool false)∧W=w'):=fun W hb=>Am b 1 W (cw hb cG _ _ yU)
 have av7:=ag yU;clear hp yU CM;go_enter func20,ntmps20
 go_upto_region 7 with(first
  |(go_at_call 23;refine HN.out.mono ?_;rintro e w2 ⟨F,m,eb,rfl,R,hb,he⟩;have HR:=ag (dO R (dO hb he));clear R hb he)
  |(go_at_call 40;refine(XP.out _ HR.out.2.1).mono ?_;rintro e w3 ⟨rfl,rfl⟩))
 have pI:=ag (GY HR.out.1 HR.out.2.2)
 go_upto_region 8 with(first
  |(go_at_call 10;refine pI.out.mono ?_;rintro e w3 ⟨ls,sa,sc,ma,mc,da,dc,xa,xc,ga,gc,ca,cc,As,Vs,Ds,rfl,hr⟩;have Bg:=ag hr;clear hr)
  |(refine df rfl 41 (.tmp 13) (.tmp 35) rfl w3.heap.size rfl _ #[I 2,I 1,I 0,.slice ga 2 gc,.slice none 0 0,.slice sa 2 sc,.slice ca 2 cc,.slice ma 0 mc,I 0,.slice da 0 dc,I 0,.slice xa 0 xc] rfl rfl jB rfl (by simp[Value.oneCell']) ?_))
 dsimp only[Act.put];obtain⟨w4,xX⟩:=dC (w3.alloc (.cells #[I 2,I 1,I 0,.slice ga 2 gc,.slice none 0 0,.slice sa 2 sc,.slice ca 2 cc,.slice ma 0 mc,I 0,.slice da 0 dc,I 0,.slice xa 0 xc] 41));obtain⟨sb,mB⟩:∃b,b=w3.heap.size:=⟨_,rfl⟩;rw[←xX,←mB];have h0:Hid (w4.heap[sb]?=some (.cells #[I 2,I 1,I 0,.slice ga 2 gc,.slice none 0 0,.slice sa 2 sc,.slice ca 2 cc,.slice ma 0 mc,I 0,.slice da 0 dc,I 0,.slice xa 0 xc] 41 (0,0))∧Below w3.heap.size w3 w4):=by refine⟨by rw[xX,mB];exact dP _ _,by rw[xX];exact(fp _ _).alloc cG _⟩
 have Bm:Hid (sb=w3.heap.size):=mB;clear xX mB pI HN XP;go_wp2_with fail
 go_loopw [38] (fun i wr=>∃(k:Nat) (va:Option Addr) (vc:Nat),i=.int .i64 k∧k≤1∧Hid (wr.heap[sb]?=some (.cells #[I 2,I 1,I 0,.slice ga 2 gc,.slice va k vc,.slice sa 2 sc,.slice ca 2 cc,.slice ma 0 mc,I 0,.slice da 0 dc,I 0,.slice xa 0 xc] 41 (0,0))∧Below w3.heap.size w3 wr∧(k=0→va=none∧vc=0)∧(k=1→∃hb,va=some ⟨hb,0,none⟩∧∀(q:Nat) v,(#[I 0,.slice none 0 0,B false,I (-1),.slice none 0 0,.slice none 0 0]:Array Value)[q]?=some v→wr.cell? ⟨hb,q,none⟩=some v))) (fun i _=>1-(intOf i).toNat)
 case atStart=>exact⟨0,none,0,rfl,by omega,⟨h0.out.1,h0.out.2,(fun _=>⟨rfl,rfl⟩),(fun h=>aX h (by decide))⟩⟩
 case round=>
  clear h0;obtain⟨k,va,vc,rfl,hk,HW⟩:=hrel;have qq:w3.heap.size≤wr.heap.size:=HW.out.2.1.size;have GV:Below w.heap.size w wr:=HR.out.2.1.trans ((Bg.out.below.trans (HW.out.2.1.mono Bg.out.below.size)).mono HR.out.2.1.size);by_cases dD:k<1
  ·obtain rfl:k=0:=by omega
   obtain⟨rfl,rfl⟩:=HW.out.2.2.1 rfl;have hx:=HW.out.1;have c4:wr.cell? ⟨sb,4,none⟩=some (.slice none 0 0):=(by rw[cr _ _ _ _ _ _ hx];rfl);have f4:=iM wr sb 4 _ _ hx;have cc0:wr.cell? ⟨b,0,none⟩=some (I 0):=cw GV cG _ _ av7.out;have NB:sb<wr.heap.size:=(dh hx).1;clear hx GV;go_upto_region 12 with(at_builtin;go_loud (refine jw (us:=#[I 0,.slice none 0 0,B false,I (-1),.slice none 0 0,.slice none 0 0]) (w2:=wr) rfl (.tmp 43) (.tmp 46) 36 rfl UM yi yz0 yz1 yz2 rfl (by decide) (by decide) rfl rfl (by simp[Value.oneCell']) (.slice none 0 0) 0 [] rfl (World.ownsRow_nil _ w3.heap.size _ _) rfl (by omega) qq ?_);intro gg cp w9 hown kX gp;have oz:w9.heap[sb]?=wr.heap[sb]?:=(by rw[kX.block sb (by simp;omega) (fun e=>by cases e),gf _ _ _ NB]);have d4:w9.cell? ⟨sb,4,none⟩=some (.slice none 0 0):=(kZ oz).trans c4;have fd4:w9.frozen? ⟨sb,4,none⟩=false:=(xp oz).trans f4;have H9:=ag (dO hown (dO kX (dO gp oz)));clear hown kX gp oz)
   have HN:Hid ((w9.setCell ⟨sb,4,none⟩ (.slice (some ⟨gg,0,none⟩) 1 cp)).heap[sb]?=some (.cells #[I 2,I 1,I 0,.slice ga 2 gc,.slice (some ⟨gg,0,none⟩) 1 cp,.slice sa 2 sc,.slice ca 2 cc,.slice ma 0 mc,I 0,.slice da 0 dc,I 0,.slice xa 0 xc] 41 (0,0))∧Below w3.heap.size w3 (w9.setCell ⟨sb,4,none⟩ (.slice (some ⟨gg,0,none⟩) 1 cp))∧(∃hb,(some ⟨gg,0,none⟩:Option Addr)=some ⟨hb,0,none⟩∧∀(q:Nat) v,(#[I 0,.slice none 0 0,B false,I (-1),.slice none 0 0,.slice none 0 0]:Array Value)[q]?=some v→(w9.setCell ⟨sb,4,none⟩ (.slice (some ⟨gg,0,none⟩) 1 cp)).cell? ⟨hb,q,none⟩=some v)):=by
    obtain⟨hown,kX,gp,oz⟩:=H9.out;have hle:w3.heap.size≤sb:=by rw[Bm.out];exact Nat.le_refl _
    have Rq:gg≠sb:=by
     rcases gp with h|h
     ·cases h
     ·simp at h;omega
    refine⟨?_,?_,gg,rfl,fun q v hv=>?_⟩
    ·have:=heap_setCell_same w9 sb 4 _ 41 (.slice (some ⟨gg,0,none⟩) 1 cp) (oz.trans HW.out.1);exact this
    ·exact((HW.out.2.1.alloc qq _).grown kX (by simp;omega) (fun b hb=>by cases hb)).setCell (p:=⟨sb,4,none⟩) hle _
    ·rw[kZ (w:=w9) (a:=⟨gg,q,none⟩) (fQ _ _ _ _ (by simpa using Rq))];obtain⟨b',VK,e,hc⟩:=gC.tO hown (by omega)
     cases e;have:=hc q v (by simpa using hv);rw[Nat.zero_add]at this;exact this
   clear H9 HW c4 f4 cc0 qq;go_wp2;go_roundw
   case rel=>exact⟨1,_,_,rfl,by omega,⟨HN.out.1,HN.out.2.1,(fun h=>aX h (by decide)),(fun _=>HN.out.2.2)⟩⟩
   case measure=>simp[intOf]
  ·obtain rfl:k=1:=by omega
   obtain⟨hx,Hl,_,h1⟩:=HW.out;obtain⟨hb,rfl,hc⟩:=h1 rfl;have HE:=ag (JQ ga (some ⟨hb,0,none⟩) sa ca ma da xa gc vc sc cc mc dc xc wr (Ri Bg.out (fun b _ h2=>Hl.block b h2) hc));have HX:=ag (dO hx GV);clear hx Hl h1 hc HW GV;go_upto_region 13 with fail
   refine wp_region_lit ?_;refine wpList_load_mid rfl 41 (.tmp 13) rfl sb 0 rfl #[I 2,I 1,I 0,.slice ga 2 gc,.slice (some ⟨hb,0,none⟩) 1 vc,.slice sa 2 sc,.slice ca 2 cc,.slice ma 0 mc,I 0,.slice da 0 dc,I 0,.slice xa 0 xc] (fun q v hq=>by rw[Nat.zero_add,cr _ _ _ _ _ _ HX.out.1];exact hq) uV jB ?_;go_wp2_with (go_at_call 41;refine HE.out.mono ?_;rintro e w9 ⟨F9,m9,eb9,rfl,hr9⟩;have H9:=ag hr9;clear hr9);go_ret2;obtain⟨R9,ZP,he9,aC2,hn9⟩:=H9.out;have hs:=HX.out.2.size;exact⟨F9,m9,eb9,_,rfl,R9,by omega,HX.out.2.trans (ZP.mono hs),he9,by omega,hn9⟩
theorem eW.toN{w:World}{a:Option Addr}{p:List (List cu)}(h:eW w a p):nZ w a (p.map fun l=>l.map fun o=>o.cases.length):=by
 refine⟨by rw[ko];exact h.1,fun i hi=>?_⟩;rw[ko]at hi;obtain⟨l,hl⟩:∃l,p[i]?=some l:=⟨_,fv hi⟩;have e:(p.map fun l=>l.map fun o=>o.cases.length).getD i []=l.map fun o=>o.cases.length:=by rw[yk,na,hl];rfl
 rw[e];obtain⟨b,off,r,c,e1,h1,h2⟩:=h.2 i l hl;refine⟨b,off,r,c,e1,by rw[ko];exact h1,by rw[ko];exact h2.1,fun j hj=>?_⟩;rw[ko]at hj;obtain⟨o,ho⟩:∃o,l[j]?=some o:=⟨_,fv hj⟩;have e2:(l.map fun o=>o.cases.length).getD j 0=o.cases.length:=by rw[yk,na,ho];rfl
 rw[e2];obtain⟨b2,ah6,x,cx,e3,k0,k1,k2,k3,k4,k5,k6,_⟩:=h2.2 j o ho;exact⟨b2,ah6,_,_,_,_,x,cx,_,e3,k0,k1,k2,k3,k4,k5,k6.1⟩
theorem GZ(a:Option Addr)(c:Nat)(w:World)(h:eW w a ev):Calls prog 12 #[.slice a 2 c,I 2] w (eL (I 198) (Below w.heap.size w)):=by
 have hn:(ev.map fun l=>l.map fun o=>o.cases.length)=[[0,0],[0,0]]:=rfl;have h1:=h.toN;rw[hn]at h1
 have hs:Small [[0,0],[0,0]]:=by
  refine⟨by decide,fun i hi=>?_⟩;have hi:i<2:=hi;rcases(show i=0∨i=1 by omega)with rfl|rfl
  all_goals
   refine⟨by decide,fun j hj=>?_⟩;have hj:j<2:=hj;rcases(show j=0∨j=1 by omega)with rfl|rfl<;>decide
 refine(Hv [[0,0],[0,0]] 2 rfl a c 2 w h1 hs).mono ?_;rintro e w' ⟨⟨b,rfl,hb⟩,hB⟩
 have EI:¬Ln [[0,0],[0,0]] 2:=by
  rintro(h|h|h|⟨i,hi,h⟩)
  ·omega
  ·omega
  ·simp at h
  ·have hi:i<2:=hi;rcases(show i=0∨i=1 by omega)with rfl|rfl
   all_goals
    rcases h with h|⟨j,hj,h⟩
    ·simp at h
    ·have hj:j<2:=hj;rcases(show j=0∨j=1 by omega)with rfl|rfl<;>simp at h
 have hb:=hb.2 EI;refine⟨?_,hB⟩;rw[hb];rfl
theorem Rk{S:Wd}(h:Rg S=true):∃r0 r1:nP,oY S.done=[r0,r1]∧r0.v=9∧r0.ok=true∧r1.ok=false:=by
 unfold Rg at h;split at h
 ·rename_i r0 r1 he;simp only[qs,beq_iff_eq,Bool.not_eq_true']at h;exact⟨r0,r1,he,h.1.1,h.1.2,h.2⟩
 ·cases h
theorem JR(w:World):Calls prog 6 #[] w (oV (Below w.heap.size w)):=by
 have CM:Below w.heap.size w (w.alloc (.cells #[I 9] 2)):=(fp _ _).alloc cG _;have HPS:Hid (Calls prog 19 #[.slice (some ⟨w.heap.size,0,none⟩) 1 1] (w.alloc (.cells #[I 9] 2)) fun e w'=>∃a c,e=.returned (.slice a 2 c)∧eW w' a ev∧Below w.heap.size w w'):=by refine(zo w.heap.size (w.alloc (.cells #[I 9] 2)) (by rw[cr _ _ _ _ _ _ (dP _ _)];rfl)).mono ?_;rintro e w' ⟨a,c,rfl,h1,h2⟩;exact⟨a,c,rfl,h1,CM.trans (h2.mono (by simp))⟩
 clear CM;go_enter func6,ntmps6;go_upto_region 2 with(go_at_call 19;refine HPS.out.mono ?_;rintro e w2 ⟨a,c,rfl,h1,h2⟩;have HP:=ag (dO h1 h2);clear h1 h2)
 have Yr:Hid (Calls prog 20 #[.slice a 2 c,.agg #[I 2,I 1],.slice none 0 0,.slice (some ⟨w2.heap.size,0,none⟩) 1 1] (w2.alloc (.cells #[I 0] 3)) fun e w'=>∃F m eb lo,e=.returned (.tuple #[.pointer (some ⟨eb,0,none⟩),I 0])∧bz lo F w' m pV∧w.heap.size≤lo∧Below w.heap.size w w'∧eW w' a ev∧w'.heap[eb]?=some (.cells #[.pointer (some ⟨F.al,0,none⟩)] 78 (0,0))∧∀r,m.aV r≠some eb):=by have G5:Below w2.heap.size w2 (w2.alloc (.cells #[I 0] 3)):=(fp _ _).alloc cG _;have hs:=HP.out.2.size;refine(M9 a c w2.heap.size (w2.alloc (.cells #[I 0] 3)) (HP.out.1.below G5 cG) (by rw[cr _ _ _ _ _ _ (dP _ _)];rfl)).mono ?_;rintro e w' ⟨F,m,eb,lo,rfl,R,hl,hb,he,_,hn⟩;simp at hl;exact⟨F,m,eb,lo,rfl,R,by omega,HP.out.2.trans ((G5.trans (hb.mono (by simp))).mono hs),(HP.out.1.below G5 cG).below hb cG,he,hn⟩
 clear HPS;go_upto_region 5 with(go_at_call 20;refine Yr.out.mono ?_;rintro e w3 ⟨F,m,eb,lo,rfl,R,hl,hb,hp,he,hn⟩;have H3:=ag (dO R (dO hl (dO hb (dO hp (dO he hn)))));clear R hl hb hp he hn)
 have HBD:=ag (GZ a c w3 H3.out.2.2.2.1);have GN:Hid (∀W,Below w3.heap.size w3 W→Calls prog 11 #[.pointer (some ⟨eb,0,none⟩),.slice none 0 0,I 2,I 198] W fun e w'=>∃la j lc S,e=.returned (.tuple #[.slice la j lc,.bool true])∧Rg S=true∧S.done.length≤900000∧(∃ls,tc S ls)∧Below w.heap.size w w'∧w'.heap[eb]?=some (.cells #[.pointer (some ⟨F.al,0,none⟩)] 78 (0,0))∧∃m,bz lo F w' m S):=fun W hb=>by obtain⟨R,hl,hbw,_,he,hn⟩:=H3.out;have R4:=R.below hb;have heW:W.heap[eb]?=some (.cells #[.pointer (some ⟨F.al,0,none⟩)] 78 (0,0)):=(hb.block eb (dh he).1).trans he;have T:TB lo F m W pV [(eb,.cells #[.pointer (some ⟨F.al,0,none⟩)] 78)] W:=⟨m,At.refl R4,fun p hp=>by rw[List.mem_singleton]at hp;subst hp;exact⟨heW,hn⟩⟩;refine(JN Ee T (List.mem_singleton.2 rfl) QA.start ⟨by omega,by omega⟩ (by omega) (by omega) 0).mono ?_;rintro e w' ⟨la,j,lc,S,f,hQ,r9,rfl,m',X⟩;obtain⟨hr,hf⟩:=hQ.fin r9;have GV:Below w.heap.size w W:=hbw.trans (hb.mono hbw.size);refine⟨la,j,lc,S,by rw[hr];rfl,hf,by have:=hQ.1.1.len;have:=hQ.2.1;omega,hQ.1.Um uo (by have:=hQ.2.1;omega),?_,(X.loc _ (List.mem_singleton.2 rfl)).1,m',X.at_.bj⟩;refine⟨X.at_.mv.os.trans GV.os,X.at_.mv.tape.trans GV.tape,X.at_.mv.output.trans GV.output,jm GV.size X.at_.mv.size,fun b hb=>?_⟩;rw[X.at_.mv.keep b (by have:=GV.size;omega) (fun r e=>by have:=(R4.lies r b e).1;omega)];exact GV.block b hb
 clear Yr HP
 go_upto_region 6 with(first
  |(go_at_call 12;refine HBD.out.mono ?_;rintro e w4 ⟨rfl,R8⟩)
  |(go_at_call 11;refine(GN.out _ R8).mono ?_;rintro e w5 ⟨la,j,lc,S,rfl,hf,hd,jf,hb,he,hR⟩;have H5:=ag (dO hf (dO hd (dO jf (dO hb (dO he hR)))));clear hf hd jf hb he hR R8))
 have pI:Hid (Calls prog 10 #[.pointer (some ⟨eb,0,none⟩)] w5 fun e w'=>∃sa sc ma mc da dc xa xc ga gc ca cc ha hc,e=.returned (.agg #[I S.dV,I S.eT,I S.av,.slice ga S.gs.length gc,.slice ha S.au.length hc,.slice sa S.ah.length sc,.slice ca S.gs.length cc,.slice ma S.ar.aK.length mc,I S.ar.cO,.slice da S.draws.length dc,I S.drawn,.slice xa S.done.length xc])∧Below w.heap.size w w'∧gC w' xa S.done.length (bT ib 0 S.done)):=by obtain⟨hf,hd,⟨ls,jf⟩,hb,he,m5,R⟩:=H5.out;refine(pU R jf he).mono ?_;rintro e w' ⟨sa,sc,ma,mc,da,dc,xa,xc,ga,gc,ca,cc,ha,hc,As,Vs,Ds,rfl,hr,_⟩;exact⟨sa,sc,ma,mc,da,dc,xa,xc,ga,gc,ca,cc,ha,hc,rfl,hb.trans (hr.below.mono hb.size),(hr.rd w' (fun b _ _=>rfl)).done⟩
 go_upto_region 7 with(first
  |(go_at_call 10;refine pI.out.mono ?_;rintro e w6 ⟨sa,sc,ma,mc,da,dc,xa,xc,ga,gc,ca,cc,ha,hc,rfl,hb,mj⟩;have H6:=ag (dO hb mj);clear hb mj)
  |(go_at_call 21;refine(QX _ _ _ _ _ _ _ _ _ _ _ S.done S.done.length rfl H5.out.2.1 xa xc w6 H6.out.2 (by simp[Value.oneCell'])).mono ?_;rintro e w7 ⟨ra,rc,rfl,mj,hb⟩;have H7:=ag (dO mj hb);clear mj hb))
 obtain⟨r0,r1,hg,v0,k0,k1⟩:=Rk H5.out.1;rw[hg];obtain⟨rb,Up,rfl,hc⟩:=H7.out.1 (by rw[hg];exact Nat.succ_pos 1);have g2:w7.cell? ⟨rb,Up+2,none⟩=some (I 9):=by rw[hc 2 (I 9) (by rw[hg,←v0];rfl)]
 have g3:w7.cell? ⟨rb,Up+3,none⟩=some (B true):=by rw[hc 3 (B true) (by rw[hg,←k0];rfl)]
 have g8:w7.cell? ⟨rb,Up+8,none⟩=some (B false):=by rw[hc 8 (B false) (by rw[hg,←k1];rfl)]
 have g8':w7.cell? ⟨rb,Up+5+3,none⟩=some (B false):=g8;have HB:Hid (Below w.heap.size w w7):=H6.out.1.trans (H7.out.2.mono H6.out.1.size);clear hc;go_wp2;go_ret;exact⟨rfl,HB.out⟩
structure An(w w':World)(p:List (List cu))(draws:List Int)(k:Nat)(eb af:Nat)(F:Fx)(m:Mem)(S:Wd):Prop where
 row:V.xK p draws k S
 below:Below w.heap.size w w'
 Rl:w.heap.size≤af
 eng:w'.heap[eb]?=some (.cells #[.pointer (some ⟨F.al,0,none⟩)] 78 (0,0))
 bj:bz af F w' m S
 ne:∀r,m.aV r≠some eb
theorem G0{w:World}{a:Option Addr}{p:List (List cu)}(h:eW w a p)(hp:im p=true):∀l∈p,CY l:=by
 intro l hl;obtain⟨i,hi,rfl⟩:=List.getElem_of_mem hl;obtain⟨b,off,r,c,_,_,ho⟩:=h.2 i _ (fv hi);obtain⟨hsz,G2,eK⟩:=kH hp;have aC3:=(eK.row _ hl);refine⟨by omega,fun o UE=>?_⟩;obtain⟨j,hj,rfl⟩:=List.getElem_of_mem UE;obtain⟨b2,ah6,x,cx,_,_,_,_,_,_,_,hc,i1,i2,i3,i4⟩:=ho.2 j _ (fv hj);refine⟨i1,i2,i3,i4,?_,fun c xz=>?_⟩
 ·have:=(eK.ops _ hl _ UE).cl;omega
 ·obtain⟨q,hq,rfl⟩:=List.getElem_of_mem xz;obtain⟨_,_,_,_,_,_,h1,h2⟩:=hc.2 q _ (fv hq);exact⟨h1,h2⟩
theorem An.tb{w w':World}{p:List (List cu)}{draws:List Int}{k eb af:Nat}{F:Fx}{m:Mem}{S:Wd}(E:An w w' p draws k eb af F m S){L:List (Nat×Obj)}(hL:∀x∈L,x.1<w.heap.size∧w.heap[x.1]?=some x.2):TB af F m w' S ((eb,.cells #[.pointer (some ⟨F.al,0,none⟩)] 78)::L) w':=⟨m,At.refl E.bj,fun x hx=>by
 rcases iL.1 hx with rfl|hx
 ·exact⟨E.eng,E.ne⟩
 ·obtain⟨h1,h2⟩:=hL x hx;exact⟨(E.below.block _ h1).trans h2,fun r e=>by have:=(E.bj.lies r _ e).1;have:=E.Rl;omega⟩⟩
theorem An.ah7{w w' w2:World}{p:List (List cu)}{draws:List Int}{k k2 eb af:Nat}{F:Fx}{m:Mem}{S S2:Wd}(E:An w w' p draws k eb af F m S){L:List (Nat×Obj)}(T:TB af F m w' S2 ((eb,.cells #[.pointer (some ⟨F.al,0,none⟩)] 78)::L) w2)(mA:V.xK p draws k2 S2):∃m2,An w w2 p draws k2 eb af F m2 S2:=by
 obtain⟨m2,X⟩:=T;refine⟨m2,mA,⟨X.at_.mv.os.trans E.below.os,X.at_.mv.tape.trans E.below.tape,X.at_.mv.output.trans E.below.output,jm E.below.size X.at_.mv.size,fun b hb=>?_⟩,E.Rl,(X.loc _ (rn ..)).1,X.at_.bj,(X.loc _ (rn ..)).2⟩;rw[X.at_.mv.keep b (by have:=E.below.size;omega) (fun r e=>by have:=(E.bj.lies r b e).1;have:=E.Rl;omega)];exact E.below.block b hb
theorem G1{w w':World}{p:List (List cu)}{draws:List Int}{eb af:Nat}{F:Fx}{m:Mem}{S:Wd}(E:An w w' p draws 0 eb af F m S)(hd:draws.length≤300)(hr:∀z∈draws,0≤z∧z≤65535)(picks:List Int)(np:Nat)(Fb:np=picks.length)(aC4:np≤300)(pa:Option Addr)(pc:Nat)(hz:∀z∈picks,-9223372036854775808≤z∧z≤9223372036854775807)(jF:Rd .i64 w pa picks):Calls prog 9 #[.pointer (some ⟨eb,0,none⟩),.slice pa np pc] w' fun e w2=>∃q k S2 m2,e=.returned (I q)∧k≤900000∧An w w2 p draws k eb af F m2 S2:=by
 have G:=V.Vh p draws (by omega) hr
 obtain⟨L,hL,hLr⟩:∃L:List (Nat×Obj),(∀x∈L,x.1<w.heap.size∧w.heap[x.1]?=some x.2)∧∀W:World,(∀x∈L,W.heap[x.1]?=some x.2)→Rd .i64 W pa picks:=by
  cases picks with
  |nil=>exact⟨[],(fun x hx=>by cases hx),(fun W _=>⟨jF.1,fun h=>aX h (by simp)⟩)⟩
  |cons z zs=>
   obtain⟨b,off,rfl,hc⟩:=jF.2 (by simp);have h0:=hc 0 (by simp)
   have dD:b<w.heap.size:=by
    rcases Nat.lt_or_ge b w.heap.size with h|h
    ·exact h
    ·simp[World.cell?,Array.getElem?_eq_none h]at h0
   refine⟨[(b,w.heap[b]'dD)],fun x hx=>?_,fun W hW=>jF.other ?_⟩
   ·rw[List.mem_singleton]at hx;subst hx;exact⟨dD,xL dD⟩
   ·rw[hW _ (List.mem_singleton.2 rfl),xL dD]
 refine(MY G (E.tb hL) (rn ..) E.row picks np Fb (by omega) (by omega) pa pc hz (fun W hW=>hLr W fun x hx=>hW x (nO _ hx)) (fun k S z hP hk h0 g hg=>?_)).mono ?_
 ·obtain⟨j,hj,jf⟩:=G.who k S _ hP (vt h0 z);rw[hg]at jf;exact V.xK.next hP (by omega) (by have:=cA hk;omega) jf
 ·rintro e w2 ⟨⟨q,rfl⟩,k,S2,hP,_,T⟩;obtain⟨m2,E2⟩:=E.ah7 T hP;exact⟨q,k,S2,m2,rfl,hP.1.most,E2⟩
theorem An.start{w w':World}{p:List (List cu)}{draws:List Int}{N most eb af:Nat}{F:Fx}{m:Mem}(hp:im p=true)(gI:nK N p.length most=true)(hd:draws.length≤300)(hb:Below w.heap.size w w')(hbase:w.heap.size≤af)(R:bz af F w' m (V.gj p N most draws))(he:w'.heap[eb]?=some (.cells #[.pointer (some ⟨F.al,0,none⟩)] 78 (0,0)))(hn:∀r,m.aV r≠some eb):An w w' p draws 0 eb af F m (V.gj p N most draws):=by
 unfold nK at gI;simp only[qs,decide_eq_true_eq]at gI;exact⟨V.wI (kH hp).2.2 (by omega) (by omega) draws (by omega),hb,hbase,he,R,hn⟩
abbrev MKX(mk:Ex):Array Value:=#[I mk.g,I mk.op,I mk.call,I mk.bJ,I mk.point,I mk.bF,I mk.fire,I mk.re,I mk.res.aJ,I mk.res.case,I mk.res.v,B mk.res.ok,I mk.res.n]
abbrev SSX(S2:Wd)(ga:Option Addr)(gc:Nat)(ha:Option Addr)(rg hc:Nat)(sa:Option Addr)(sc:Nat)(Vl:Option Addr)(cc:Nat)(ma:Option Addr)(mc:Nat)(Vk:Option Addr)(dc:Nat)(xa:Option Addr)(N xc:Nat):Array Value:=#[I S2.dV,I S2.eT,I S2.av,.slice ga S2.gs.length gc,.slice ha rg hc,.slice sa S2.ah.length sc,.slice Vl S2.gs.length cc,.slice ma S2.ar.aK.length mc,I S2.ar.cO,.slice Vk S2.draws.length dc,I S2.drawn,.slice xa N xc]
theorem Eg(p:List (List cu))(n:Nat)(hn:n=p.length)(a:Option Addr)(ca:Nat)(x y:Int)(draws:List Int)(da:Option Addr)(nd cd:Nat)(fX:nd=draws.length)(picks:List Int)(pa:Option Addr)(np pc:Nat)(Fb:np=picks.length)(w:World)(h1:eW w a p)(hd:Rd .u16 w da draws)(hr:∀z∈draws,0≤z∧z≤65535)(hz:∀z∈picks,-9223372036854775808≤z∧z≤9223372036854775807)(jF:Rd .i64 w pa picks):Calls prog 3 #[.agg #[.slice a n ca,I x,I y,.slice da nd cd],.slice pa np pc] w (oV (Below w.heap.size w)):=by
 have hsz:n≤9223372036854775807:=by rw[hn];exact h1.1
 have Dx:nd≤9223372036854775807:=by rw[fX];exact hd.1
 have Io:np≤9223372036854775807:=by rw[Fb];exact jF.1
 have HB:Hid (Below w.heap.size w (w.alloc (.cells #[.slice a n ca,I x,I y,.slice da nd cd] 27))):=(fp _ _).alloc cG _;have wH:Hid ((w.alloc (.cells #[.slice a n ca,I x,I y,.slice da nd cd] 27)).heap[w.heap.size]?=some (.cells #[.slice a n ca,I x,I y,.slice da nd cd] 27 (0,0))):=dP _ _;obtain⟨wA,tY⟩:∃W,W=w.alloc (.cells #[.slice a n ca,I x,I y,.slice da nd cd] 27):=⟨_,rfl⟩;obtain⟨bx,tl⟩:∃b,b=w.heap.size:=⟨_,rfl⟩;rw[←tY]at HB wH;rw[←tl]at wH;have FI:wA.heap.size=bx+1:=by rw[tY,tl];simp
 have H1:=ag (h1.below HB.out cG);have HD:=ag (hd.below HB.out cG);have CZ:=ag (jF.below HB.out cG);obtain⟨HN,Xe,Ep,HR,HZ⟩:=jW hn fX Fb hr hz;have Ah:Hid (∀W,Below wA.heap.size wA W→Calls prog 8 #[.agg #[.slice a n ca,I x,I y,.slice da nd cd],.slice pa np pc] W fun e w'=>e=.returned (.bool (okB p x y nd np))∧Below wA.heap.size wA w'):=fun W hb=>(Rc p n hn a ca x y da nd cd pa np pc Dx Io W (H1.out.below hb cG)).mono fun e w' h=>⟨h.1,hb.trans (h.2.mono hb.size)⟩
 have Yr:Hid (∀W,Below wA.heap.size wA W→Calls prog 7 #[.agg #[.slice a n ca,I x,I y,.slice da nd cd],.slice pa np pc] W fun e w'=>Below wA.heap.size wA w'∧((okB p x y nd np=false∧e=.returned (.tuple #[.pointer none,.bool false]))∨
   (okB p x y nd np=true∧nd≤300∧np≤300∧im p=true∧∃eb af F m S,e=.returned (.tuple #[.pointer (some ⟨eb,0,none⟩),.bool true])∧An wA w' p draws 0 eb af F m S))):=fun W hb=>by
  refine(Eb p n hn a ca x y draws da nd cd fX pa np pc Dx Io W (H1.out.below hb cG) (fun _=>HD.out.below hb cG) hr).mono ?_;rintro e w' ⟨mz,h⟩;refine⟨hb.trans (mz.mono hb.size),?_⟩;rcases h with h|⟨eK,N,most,F,m,eb,af,rfl,rfl,gI,hp,rfl,hbase,R,he,_,cM⟩
  ·exact .inl h
  ·have av8:=eK;unfold okB at eK;simp only[qs,decide_eq_true_eq]at eK;exact .inr ⟨av8,eK.1.2,eK.2,hp,eb,af,F,m,_,rfl,An.start hp (hn▸gI) (by omega) (hb.trans (mz.mono hb.size)) (jm hb.size hbase) R he cM⟩
 have HAL:Hid (∀W:World,Calls prog 6 #[] W fun e w'=>e=.returned (.bool true)∧Below W.heap.size W w'):=fun W=>JR W
 have PX:=ag FI;clear h1 hd jF hn fX Fb hr hz FI;go_enter func3,ntmps3;go_upto_region 1 with fail
 rw[←tY,←tl];have RU:Hid (∀{W},Below wA.heap.size wA W→Below w.heap.size w W):=fun hb=>HB.out.trans (hb.mono HB.out.size)
 clear tY tl HB;have RR:Hid (∀W,Below wA.heap.size wA W→W.heap[bx]?=some (.cells #[.slice a n ca,I x,I y,.slice da nd cd] 27 (0,0))):=fun W hb=>(hb.block _ (by have:=PX.out;omega)).trans wH.out
 go_upto_region 4 with(first
  |(go_at_call 6;refine(HAL.out _).mono ?_;rintro e w1 ⟨rfl,hb⟩;have hx:=RR.out _ hb;have k0:w1.cell? ⟨bx,0,none⟩=some (.slice a n ca):=(by rw[cr _ _ _ _ _ _ hx];rfl);have k1:w1.cell? ⟨bx,1,none⟩=some (I x):=(by rw[cr _ _ _ _ _ _ hx];rfl);have k2:w1.cell? ⟨bx,2,none⟩=some (I y):=(by rw[cr _ _ _ _ _ _ hx];rfl);have k3:w1.cell? ⟨bx,3,none⟩=some (.slice da nd cd):=(by rw[cr _ _ _ _ _ _ hx];rfl);have pH:=ag hb;clear hb hx)
  |(go_at_call 7;refine(Yr.out _ pH.out).mono ?_;rintro e w2 ⟨mz,h⟩;have mq:=ag mz;have HX:=RR.out _ mz;have c0:w2.cell? ⟨bx,0,none⟩=some (.slice a n ca):=(by rw[cr _ _ _ _ _ _ HX];rfl);have c1:w2.cell? ⟨bx,1,none⟩=some (I x):=(by rw[cr _ _ _ _ _ _ HX];rfl);have c2:w2.cell? ⟨bx,2,none⟩=some (I y):=(by rw[cr _ _ _ _ _ _ HX];rfl);have c3:w2.cell? ⟨bx,3,none⟩=some (.slice da nd cd):=(by rw[cr _ _ _ _ _ _ HX];rfl);clear mz HX;rcases h with⟨eK,rfl⟩|⟨eK,hd3,U3,hp,eb,af,F,m,S,rfl,E⟩))
 ·clear k0 k1 k2 k3 Yr HAL RR;have HC:=ag (Ah.out _ mq.out);rw[eK]at HC;go_wp2_with (go_at_call 8;refine HC.out.mono ?_;rintro e w3 ⟨rfl,Hl⟩);go_ret;exact⟨rfl,RU.out Hl⟩
 ·have GQ:=ag (G1 E (by rw[←Xe.out];exact hd3) HR.out picks np Ep.out U3 pa pc HZ.out CZ.out);have Rm:=ag (G0 H1.out hp);clear k0 k1 k2 k3 c0 c1 c2 c3 Ah Yr HAL E eK HR HZ HD CZ Xe Ep hp pH mq;go_upto_region 7 with(go_at_call 9;refine GQ.out.mono ?_;rintro e w3 ⟨q,k,S2,m2,rfl,hk,E⟩;obtain⟨HE,HK⟩:=dA E hk;clear E hk)
  have pI:Hid (Calls prog 10 #[.pointer (some ⟨eb,0,none⟩)] w3 fun e w'=>∃sa sc ma mc Vk dc xa xc ga gc Vl cc ha hc rg N,e=.returned (.agg (SSX S2 ga gc ha rg hc sa sc Vl cc ma mc Vk dc xa N xc))∧Below wA.heap.size wA w'∧gC w' xa N (bT ib 0 S2.done)∧rg=S2.au.length∧N=S2.done.length):=by obtain⟨ls,jf⟩:=HE.out.row.Um Rm.out HK.out;refine(pU HE.out.bj jf HE.out.eng).mono ?_;rintro e w' ⟨sa,sc,ma,mc,Vk,dc,xa,xc,ga,gc,Vl,cc,ha,hc,As,Vs,Ds,rfl,hr,_⟩;exact⟨sa,sc,ma,mc,Vk,dc,xa,xc,ga,gc,Vl,cc,ha,hc,_,_,rfl,HE.out.below.trans (hr.below.mono HE.out.below.size),(hr.rd w' (fun b _ _=>rfl)).done,rfl,rfl⟩
  go_upto_region 8 with(first
   |(go_at_call 10;refine pI.out.mono ?_;rintro e w4 ⟨sa,sc,ma,mc,Vk,dc,xa,xc,ga,gc,Vl,cc,ha,hc,rg,N,rfl,hb,mj,Mu,hN⟩;have H4:=ag (dO hb (dO mj (dO Mu hN)));clear hb mj Mu hN)
   |(refine df rfl 41 (.tmp 7) (.tmp 29) rfl w4.heap.size rfl _ (SSX S2 ga gc ha rg hc sa sc Vl cc ma mc Vk dc xa N xc) rfl rfl jB rfl (by simp[Value.oneCell']) ?_))
  obtain⟨w5,Ha⟩:=dC (w4.alloc (.cells (SSX S2 ga gc ha rg hc sa sc Vl cc ma mc Vk dc xa N xc) 41));obtain⟨sb,mB⟩:∃b,b=w4.heap.size:=⟨_,rfl⟩;rw[←Ha,←mB];have RL:w5.heap[sb]?=some (.cells (SSX S2 ga gc ha rg hc sa sc Vl cc ma mc Vk dc xa N xc) 41 (0,0)):=by rw[Ha,mB];exact dP _ _
  have hb5:Below wA.heap.size wA w5:=by rw[Ha];exact H4.out.1.alloc H4.out.1.size _
  have ah8:gC w5 xa N (bT ib 0 S2.done):=by rw[Ha];exact H4.out.2.1.below ((fp w4.heap.size w4).alloc cG _) cG
  have HMK:Hid (∀m∈S2.done,V.uk p rg m):=by show ∀m∈S2.done,V.uk p rg m;rw[H4.out.2.2.1];exact HE.out.row.1.marks
  have Ke:Hid (N=S2.done.length∧rg≤8∧N≤900000):=by obtain⟨ls,jf⟩:=HE.out.row.Um Rm.out HK.out;have h1:=jf.au;have h2:=HE.out.row.1.len;have h3:=H4.out.2.2;have h4:=HK.out;exact⟨h3.2,by omega,by omega⟩
  have hN9:=Ke.out.2.2;have WQ:=Ke.out.2.1;have H5:=ag (dO RL (dO hb5 ah8));have c11:w5.cell? ⟨sb,11,none⟩=some (.slice xa N xc):=by rw[cr _ _ _ _ _ _ RL];rfl
  clear Ha mB RL hb5 ah8 H4 pI HE GQ;go_wp2;go_loopw [33] (fun i wr=>∃j:Nat,i=.int .i64 j∧j≤N∧Hid (Below w5.heap.size w5 wr)) (fun i _=>N-(intOf i).toNat)
  case atStart=>exact⟨0,rfl,by omega,fp _ _⟩
  case round=>
   clear c11;obtain⟨j,rfl,hj,HW⟩:=hrel;by_cases dD:j<N
   ·obtain⟨b,off,rfl,hc⟩:=H5.out.2.2 (by omega);obtain⟨mk,sN⟩:∃m,S2.done[j]?=some m:=⟨_,fv (by rw[←Ke.out.1];exact dD)⟩;have eK:=HMK.out mk (lf sN);have HC:Hid (∀q v,(MKX mk)[q]?=some v→wr.cell? ⟨b,off+j*13+q,none⟩=some v):=fun q v hq=>by have Xc:q<13:=(dh hq).1;have:=hc (j*13+q) v (by rw[fq (f:=ib) (k:=13) (fun _ _=>rfl) S2.done 0 j q mk sN Xc];simpa[ib,ru,MKX]using hq);rw[←Nat.add_assoc]at this;exact cw HW.out cG _ _ this
    have lP:=ag eK;clear hc sN eK;go_upto_region 10 with fail
    repeat(fail_if_success (refine wpList_load_mid rfl 46 (.tmp 35) rfl b (off+j*13) rfl (MKX mk) ?_ ?_ ?_ ?_));go_step
    refine wpList_load_mid rfl 46 (.tmp 35) rfl b (off+j*13) rfl (MKX mk) HC.out Ob vS ?_;repeat(fail_if_success (refine df rfl 46 (.tmp 9) (.tmp 36) rfl wr.heap.size rfl _ (MKX mk) rfl rfl ?_ ?_ ?_ ?_));go_step
    refine df rfl 46 (.tmp 9) (.tmp 36) rfl wr.heap.size rfl _ (MKX mk) rfl rfl vS rfl (by simp[Value.oneCell']) ?_;go_upto_region 11 with fail
    obtain⟨w6,Q6⟩:=dC (wr.alloc (.cells (MKX mk) 46));obtain⟨mb,ny⟩:∃b,b=wr.heap.size:=⟨_,rfl⟩;rw[←Q6,←ny];have Vm:w6.heap[mb]?=some (.cells #[I mk.g,I mk.op,I mk.call,I mk.bJ,I mk.point,I mk.bF,I mk.fire,I mk.re,I mk.res.aJ,I mk.res.case,I mk.res.v,B mk.res.ok,I mk.res.n] 46 (0,0)):=(by rw[Q6,ny];exact dP _ _);have yD:Below w5.heap.size w5 w6:=(by rw[Q6];exact HW.out.alloc HW.out.size _);obtain⟨g,jj,l,o,e1,e2,hl,ho,hA,hB⟩:=lP.out;obtain⟨pb,Xq,r,lc,rfl,U8,XR⟩:=H1.out.2 g l hl;obtain⟨ob,JS,xx,cx,rfl,q0,q1,q2,q3,q4,q5,fa,i1,i2,i3,i4⟩:=XR.2 jj o ho;have Xr:Below wA.heap.size wA w6:=H5.out.2.1.trans (yD.mono H5.out.2.1.size);have up:=fun a v h=>cw Xr cG a v h
    have t1:=up _ _ U8;have y0:=up _ _ q0;have y1:=up _ _ q1;have y2:=up _ _ q2;have y3:=up _ _ q3;have y4:=up _ _ q4;have y5:=up _ _ q5;have Rn:gW w6 xx o.cases:=fa.fU (fun a v h=>up a v h);have hgn:g<n:=(by rw[HN.out];exact(cA hl));have vy:jj<l.length:=cA ho;have J8:l.length≤100:=(Rm.out l (lf hl)).1;have z0:w6.cell? ⟨bx,0,none⟩=some (.slice (some ⟨pb,Xq,none⟩) n ca):=(by rw[cr _ _ _ _ _ _ (RR.out _ Xr)];rfl);have m0:w6.cell? ⟨mb,0,none⟩=some (I g):=(by rw[cr _ _ _ _ _ _ Vm,e1];rfl);have m1:w6.cell? ⟨mb,1,none⟩=some (I jj):=(by rw[cr _ _ _ _ _ _ Vm,e2];rfl);have H6:=ag (dO Vm (dO yD (dO Rn (dO hA hB))));obtain⟨ln,VT⟩:∃x,x=l.length:=⟨_,rfl⟩;rw[←VT]at t1 vy J8;clear Q6 ny Vm yD Rn hA hB e1 e2 hl ho U8 XR q0 q1 q2 q3 q4 q5 fa Xr up lP HC HW VT i1 i2 i3 i4
    go_region_held3 (fun W=>W.cell? ⟨bx,0,none⟩=some (.slice (some ⟨pb,Xq,none⟩) n ca)∧W.cell? ⟨mb,0,none⟩=some (I g)∧W.cell? ⟨mb,1,none⟩=some (I jj)∧W.cell? ⟨pb,Xq+g,none⟩=some (.slice (some ⟨ob,JS,none⟩) ln lc)∧W.cell? ⟨ob,JS+jj*6,none⟩=some (I o.ai)∧W.cell? ⟨ob,JS+jj*6+1,none⟩=some (I o.ch)∧W.cell? ⟨ob,JS+jj*6+2,none⟩=some (I o.n)∧W.cell? ⟨ob,JS+jj*6+3,none⟩=some (I o.v)∧W.cell? ⟨ob,JS+jj*6+4,none⟩=some (.slice xx o.cases.length cx)∧W.cell? ⟨ob,JS+jj*6+5,none⟩=some (B o.dG))
     (first | exact ⟨z0, m0, m1, t1, y0, y1, y2, y3, y4, y5⟩ | go_keep) (fail "no arm")
    obtain⟨w7,Q7⟩:=dC ((w6.alloc (eD o xx cx)).drew);obtain⟨qb,hqb⟩:∃b,b=w6.heap.size:=⟨_,rfl⟩;rw[←hqb];change _ at Q7;rw[show(w6.alloc (.cells #[.int .i64 o.ai,.int .i64 o.ch,.int .i64 o.n,.int .i64 o.v,.slice xx o.cases.length cx,.bool o.dG] 49)).drew=w7 from Q7.symm];obtain⟨Vm,yD,Rn,hA,hB⟩:=H6.out;have Uq:Below w6.heap.size w6 w7:=(by rw[Q7];exact((fp _ _).alloc cG _).drew);have Ys:Hid (Below w5.heap.size w5 w7):=yD.trans (Uq.mono yD.size);have Ur:w7.heap[qb]?=some (.cells #[I o.ai,I o.ch,I o.n,I o.v,.slice xx o.cases.length cx,B o.dG] 49 (0,0)):=(by rw[Q7,hqb];exact dP _ _);have Na:w7.heap[mb]?=some (.cells #[I mk.g,I mk.op,I mk.call,I mk.bJ,I mk.point,I mk.bF,I mk.fire,I mk.re,I mk.res.aJ,I mk.res.case,I mk.res.v,B mk.res.ok,I mk.res.n] 46 (0,0)):=(Uq.block _ (dh Vm).1).trans Vm;have hs7:w7.heap[sb]?=some (.cells #[I S2.dV,I S2.eT,I S2.av,.slice ga S2.gs.length gc,.slice ha rg hc,.slice sa S2.ah.length sc,.slice Vl S2.gs.length cc,.slice ma S2.ar.aK.length mc,I S2.ar.cO,.slice Vk S2.draws.length dc,I S2.drawn,.slice (some ⟨b,off,none⟩) N xc] 41 (0,0)):=(Ys.out.block _ (dh H5.out.1).1).trans H5.out.1;have Nb:gW w7 xx o.cases:=Rn.below Uq cG;clear Q7 hqb Vm yD Rn Uq H6 y0 y1 y2 y3 y4 y5 z0 m0 m1 t1;by_cases hk:o.ai=9
    ·have n0:w7.cell? ⟨qb,0,none⟩=some (I 9):=(by rw[cr _ _ _ _ _ _ Ur,hk];rfl);rcases hB hk with⟨ic,KB,Dj,c,mP,av9,Tg,hsend⟩|⟨ic,FX,lR⟩|⟨ic,FX,zD⟩
     ·obtain⟨qc,hqc⟩:∃qc:Nat,mk.res.case=qc:=⟨mk.res.case.toNat,by omega⟩;rw[hqc,oU]at mP;have Su:qc<o.cases.length:=cA mP;obtain⟨cb,uq,rfl,s0,s1,_,_,_⟩:=Nb.2 qc c mP;have gm:=Nb.1;have n8':w7.cell? ⟨mb,8,none⟩=some (I mk.res.aJ):=(by rw[cr _ _ _ _ _ _ Na];rfl);have n9:w7.cell? ⟨mb,9,none⟩=some (I qc):=(by rw[cr _ _ _ _ _ _ Na,hqc];rfl);have n6:w7.cell? ⟨mb,6,none⟩=some (I qc):=(by rw[cr _ _ _ _ _ _ Na,KB,hqc];rfl);have x4:w7.cell? ⟨qb,4,none⟩=some (.slice (some ⟨cb,uq,none⟩) o.cases.length cx):=(by rw[cr _ _ _ _ _ _ Ur];rfl);have k4:w7.cell? ⟨sb,4,none⟩=some (.slice ha rg hc):=(by rw[cr _ _ _ _ _ _ hs7];rfl);obtain⟨cn,RG⟩:∃n,n=o.cases.length:=⟨_,rfl⟩;rw[←RG]at x4 Su gm;obtain⟨ch,bO⟩:∃z,z=c.ch:=⟨_,rfl⟩;rw[←bO]at s1 av9 Tg;have v1:decide ((qc:Int)<0)=false:=(by simp);have v2:decide ((cn:Int)≤(qc:Int))=false:=(by simp;omega);have v3:decide (ch<1)=false:=(by simp;omega);have v4:decide ((rg:Int)<ch)=false:=(by simp;omega);have v5:decide (cn≤qc)=false:=(by simp;omega);clear hA hB hk KB hqc Dj Ur Na hs7 Nb mP RG bO;have HS:=ag hsend;clear hsend;rcases ic with ic|ic
      all_goals
       try rw[HS.out ic]at s0
       rw[ic]at n8';clear ic HS;clear RR HMK Ke H5 HN Rm HK H1 RU PX;go_upto_region 19 with fail
       go_big_quiet (fail);go_wp2;go_roundw
       case rel=>exact⟨j+1,by go_num,by omega,Ys.out.trans ⟨rfl,rfl,rfl,Nat.le_refl _,fun _ _=>rfl⟩⟩
       case measure=>simp[intOf];omega
     ·have n8:w7.cell? ⟨mb,8,none⟩=some (I 2):=(by rw[cr _ _ _ _ _ _ Na,ic];rfl);have n9:w7.cell? ⟨mb,9,none⟩=some (I (-1)):=(by rw[cr _ _ _ _ _ _ Na,lR];rfl);have x5:w7.cell? ⟨qb,5,none⟩=some (B true):=(by rw[cr _ _ _ _ _ _ Ur,FX];rfl);clear hA hB hk ic FX lR Ur Na hs7 Nb;go_wp2;go_roundw
      case rel=>exact⟨j+1,by go_num,by omega,Ys⟩
      case measure=>simp[intOf];omega
     ·have n8:w7.cell? ⟨mb,8,none⟩=some (I 6):=(by rw[cr _ _ _ _ _ _ Na,ic];rfl);have n4:w7.cell? ⟨mb,4,none⟩=some (I 0):=(by rw[cr _ _ _ _ _ _ Na,zD];rfl);have x5:w7.cell? ⟨qb,5,none⟩=some (B false):=(by rw[cr _ _ _ _ _ _ Ur,FX];rfl);clear hA hB hk ic FX zD Ur Na hs7 Nb;go_wp2;go_roundw
      case rel=>exact⟨j+1,by go_num,by omega,Ys⟩
      case measure=>simp[intOf];omega
    ·obtain⟨h9,h6⟩:=hA hk;obtain⟨kd,LB⟩:∃x,x=o.ai:=⟨_,rfl⟩;have n0:w7.cell? ⟨qb,0,none⟩=some (I kd):=(by rw[cr _ _ _ _ _ _ Ur,LB];rfl);have n9:w7.cell? ⟨mb,9,none⟩=some (I (-1)):=(by rw[cr _ _ _ _ _ _ Na,h9];rfl);have n6:w7.cell? ⟨mb,6,none⟩=some (I (-1)):=(by rw[cr _ _ _ _ _ _ Na,h6];rfl);rw[←LB]at hk;clear hA hB h9 h6 LB Ur Na hs7 Nb;go_wp2;go_roundw
     case rel=>exact⟨j+1,by go_num,by omega,Ys⟩
     case measure=>simp[intOf];omega
   ·obtain rfl:j=N:=by omega
    go_wp2;go_ret;exact⟨rfl,RU.out (H5.out.2.1.trans (HW.out.mono H5.out.2.1.size))⟩
end Go.Proofs.YtadifmnmfnihdaaGreat
namespace Go.Proofs.YtadifmnmfnihdaaGreat.wholeSelects
open Go.ChangeShapes Go.WideShapes Go.ChangeAt Go.RowKit Go.Deep Mach
theorem lifted(os:Os)(started:os.Started)(H:Type)(enc:TypeId×Value→H):ReturnsInHanded {} Tryz.checked os 3 .any (Rows.wholeSelectsSpec.pre6 enc Tryz.prog Tryz.f3 Rows.wholeSelectsRow.domain false) (Rows.wholeSelectsSpec.post enc Tryz.prog Tryz.f3 false true false false):=by
 refine returnsInHanded_of_change (C:=Tryz.checked) own started (by kernel_rfl) Tryz.func3
  (ChangeSpec.witness6 (enc:=enc) (C:=Tryz.checked) false ⟨#[],#[.agg #[.slice none 0 0,I 0,I 0,.slice none 0 0],.slice none 0 0],[]⟩ 16 (by kernel_rfl) (by kernel_rfl) (by kernel_rfl) (by kernel_rfl)) ?_
 intro W af args ds gs before Vn hW _ _;have Xs:∀(j:Nat) t v,Tryz.f3.params[j]?=some t→args[j]?=some v→Value.okWide Tryz.prog W .any af t v:=Vn;have hW':=hW;obtain⟨p,q,hA0,hV,rfl,_,_⟩:=hW;have hA:DataW.TrodAll enc Tryz.prog W 0 (fun _=>true) true Tryz.f3.params.toList args.toList ds p:=hA0;rw[Tryz.params3]at hA Xs;obtain⟨v0,vs0,d0,ds0,p0,q0,ax6,rfl,rfl,h0,r0⟩:=trodAll_cons hA;obtain⟨v1,vs1,d1,ds1,p1,q1,rfl,rfl,rfl,h1,r1⟩:=trodAll_cons r0;obtain⟨rfl,rfl,rfl⟩:=trodAll_nil r1;obtain rfl:args=#[v0,v1]:=by cases args;simp_all
 obtain⟨rfl,rfl⟩:=trodVars_none hV;have lt0:∀x∈p0,x.block<W.heap.size:=by obtain⟨m,hm⟩:=h0;exact DataW.trod_lt m _ _ _ hm
 obtain⟨a,n,ca,x,y,da,nd,cd,rfl,pl,draws,hn,rdp,fX,rdd,wd⟩:=JJ (Xs 0 27 v0 rfl rfl) h0;have lt1:∀x∈p1,x.block<W.heap.size:=by obtain⟨m,hm⟩:=h1;exact DataW.trod_lt m _ _ _ hm
 obtain⟨pa,np,pc,rfl,picks,Fb,rdk,wk⟩:=M4 (Xs 1 28 v1 rfl rfl) h1;clear hA0 Vn;refine(Eg pl n hn a ca x y draws da nd cd fX picks pa np pc Fb W rdp rdd wd wk rdk).mono fun e W' ⟨he,DS⟩=>?_
 subst he;exact⟨_,rfl,_,_,_,[],_,[],hW',trodAll_mk1 (shut_bool Tryz.underlying4 _),(trodAll_cons_mk (Below.trod laidOut (by kernel_rfl) (of_decide_eq_true (by kernel_rfl)) h0 DS lt0) (trodAll_cons_mk (Below.trod laidOut (by kernel_rfl) (of_decide_eq_true (by kernel_rfl)) h1 DS lt1) trodAll_mk0)),rfl,DS.frame _,fun h=>by cases h⟩
theorem proved:Rows.WholeSelectsSaid:=
 OpenClaim.holds_of_wide 3 Tryz.f3 rfl rfl rfl rfl rfl rfl rfl ⟨rfl,rfl,rfl,rfl,rfl⟩ rfl rfl rfl rfl rfl (by kernel_rfl) Tryz.func3 (by kernel_rfl)
  (of_decide_eq_true (by kernel_rfl)) (by unfold Func.isWrapper;rw[aE (by decide+kernel)];exact⟨rfl,rfl⟩)
  (fun os started H enc _=>lifted os started H enc)
end Go.Proofs.YtadifmnmfnihdaaGreat.wholeSelects
