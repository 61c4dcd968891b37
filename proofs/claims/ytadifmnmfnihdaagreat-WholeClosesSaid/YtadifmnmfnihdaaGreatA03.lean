import Derived.Test.YtadifmnmfnihdaaGreatA00
set_option linter.all false
set_option maxRecDepth 100000
set_option maxHeartbeats 40000000
namespace Go.Proofs.YtadifmnmfnihdaaGreat
open Go.RowKit Mach Go.Proofs.Tryz
section
variable{af:Nat}{F:Fx}{w w0:World}{m m0:Mem}{S:Wd}
theorem yE(R:bz af F w m S)(g:Nat)(x:bI)(hx:S.gs[g]?=some x):Calls prog 84 #[bR F,I g] w (ee (To af F m w (S.ay g (bu x)))):=by
 have eM:=cA hx;have c3:=R.eu
 obtain⟨a,c,h⟩:=R.shape (r:=.ops g) (n:=x.ops.length) (by simp[aj,hx];intro h;cases hh:x.ops with
  |nil=>rfl
  |cons a l=>rw[hh]at h;simp[bT,Cu]at h)
 have g0:=R.g0 hx;have g1:=R.g hx 1 _ rfl;have g2:=R.g hx 2 _ rfl;have g3:=R.g hx 3 _ rfl;have g4:=R.g hx 4 _ rfl;have HC:Hid (∀j,j<25→(w.cell? ⟨F.gs,g*25+j,none⟩).isSome=true):=fun j hj=>by obtain⟨v,hv⟩:∃v,(gk m g x)[j]?=some v:=⟨_,fv (by rw[wR];exact hj)⟩;rw[R.g hx j v hv];rfl
 have HF:Hid (∀j,w.frozen? ⟨F.gs,j,none⟩=false):=R.frozen R.aB.gs;obtain⟨w2,nt⟩:=dC (w.drew);have A0:=(At.refl R).drew;rw[←nt]at A0;obtain⟨m',A⟩:=A0.clear hx;rw[h]at g0 A;have AH:=ag A;have Rr:=ag nt;clear R hx h A A0 nt;unfold bR;go_enter func84,ntmps84;go_wp2;go_still_tail 24,kX;change wpList _ _ _ _ _ w.drew;rw[←Rr.out];have Rs:Hid (∀j,j<25→(w2.cell? ⟨F.gs,g*25+j,none⟩).isSome=true):=by rw[Rr.out];exact HC
 have Rt:Hid (∀j,w2.frozen? ⟨F.gs,j,none⟩=false):=by rw[Rr.out];exact HF
 clear HC HF g0 g1 g2 g3 g4 c3;refine cB rfl 100 (.tmp 34) (.tmp 33) rfl F.gs (g*25) _ rfl rfl kX (fun j hj=>Rs j hj) (fun j hj=>Rt _) bi9 ?_;go_wp2;go_end0;exact⟨rfl,_,AH⟩
end
section
variable{af b j:Nat}{F:Fx}{w w0 w':World}{m m0:Mem}{S S':Wd}{r:bH}{v:Value}
theorem pK{l:List Int}(h:l≠[]):∃x,l.getLast? =some x∧l[l.length-1]?=some x∧l.dropLast=l.take (l.length-1):=by
 refine⟨l.getLast h,List.getLast?_eq_some_getLast h,?_,by rw[List.dropLast_eq_take]⟩;rw[List.getLast_eq_getElem,fv]
theorem At.OE(A:At af F m0 w0 m w S){g gb k:Nat}{c:List Int}(h:S.Eg.aC[g]?=some c)(hb:m.aV (.cache g)=some gb)(hk:k=c.length-1):At af F m0 w0 m (w.setCell ⟨F.aC,g,none⟩ (.slice (some ⟨gb,0,none⟩) k (m.cap (.cache g)))) {S with Eg:={S.Eg with aC:=S.Eg.aC.set g (c.take k)}}:=by
 refine A.cut (n:=k) hb A.bj.aB.aC sX (by simp[aj,oG h,h,List.map_take]) ?_ ?_
 ·have:=oC (f:=je m) (k:=1) (fun _ _=>rfl) S.Eg.aC 0 g 0 c (c.take k) (.slice (some ⟨gb,0,none⟩) k (m.cap (.cache g))) h oX (by simp[je,Mem.de hb,hk]);simpa[aj]using this
 ·intro r' h1 h2
  cases r'<;>first|exact aX rfl h2|rfl|(simp only[aj,kI];done)|skip
  rename_i q;simp only[aj,oG h];by_cases e:q=g
  ·subst e;exact aX rfl h1
  ·simp only[aE e]
theorem Ir(R:bz af F w m S)(ok:S.Eg.Ok)(g:Nat)(c:List Int)(hc:S.Eg.aC[g]?=some c)(h0:c≠[]):Calls prog 154 #[.pointer (some ⟨F.Eg,0,none⟩),I g] w (eL (.tuple #[I (S.Eg.take g).2.1,.bool (S.Eg.take g).2.2]) fun w'=>To af F m w {S with Eg:=(S.Eg.take g).1} w'):=by
 obtain⟨x,h1,h2,h3⟩:=pK h0;have eM:g<S.Eg.aC.length:=cA hc;have hm:c∈S.Eg.aC:=lf hc;have gm:=ok.cl c hm;have hxr:=ok.cac c hm x (lf h2);obtain⟨j,hj⟩:∃j:Nat,x=j:=⟨x.toNat,oX⟩;have vy:j<S.Eg.bV.length:=oX
 have ht:S.Eg.take g=({S.Eg with aC:=S.Eg.aC.set g c.dropLast,bV:=S.Eg.bV.set j false},x,true):=by unfold fS.take;simp only[hc,fS.filled,aE h0,h1];rw[hj,oU]
 rw[ht];obtain⟨gb,yp⟩:=R.has (r:=.cache g) (by simp[aj,hc,h0]);have c2:=R.pf;have c5:=R.Bz;have cc:=R.tH hc;rw[Mem.de yp]at cc;obtain⟨n,hn⟩:∃n,n+1=c.length:=⟨c.length-1,by have:=pd h0;omega⟩;rw[←hn]at cc gm h2 h3;have cx:w.cell? ⟨gb,n,none⟩=some (I x):=R.cell yp (by simp only[aj,hc,na];rw[show n+1-1=n by omega]at h2;rw[h2];rfl);obtain⟨oH,Ki⟩:∃oH,S.Eg.bV[j]?=some oH:=⟨_,fv vy⟩;have ch:=R.bV Ki;have fh:=R.frozen R.aB.bV j;have fc:=R.frozen R.aB.aC g;rw[hj]at cx;obtain⟨oi,oy,sQ,lS,oj,lT,lU,om,lV⟩:=R.b3X R.aB.Eg R.aB.aC R.aB.bV;have A1:=(At.refl R).OE (k:=n) hc yp oX;have A2:=A1.bV j false;rw[show n+1-1=n by omega]at h3;rw[h3];have HA:=ag A2;have El:IntKind.i64.wrap (((n+1:Nat):Int)-1)=(n:Int):=bv4
 have hp0:0<n+1:=oX
 have yU:n+1≤m.cap (.cache g):=by have:=R.NH (r:=.cache g) (p:=(3,1)) rfl dX yp;simp only[aj,hc,ko,←hn]at this;omega
 have Nj:=ag hj;clear R hc h0 h1 h2 h3 hm ok hxr hj ht yp hn A1 A2 Ki;rw[Nj.out];go_enter func154,ntmps154;go_wp2;go_region;go_wp2;go_ret2;exact⟨rfl,_,HA.out.aI⟩
theorem LQ(k:Nat)(M C:List Int)(x:Int):dN (k+1) (M++[x]) C=dN k M (C++[x]):=by simp[dN]
theorem OF(k:Nat)(C:List Int):dN k [] C=([],C):=by cases k<;>simp[dN]
theorem LR(M C:List Int):dN 0 M C=(M,C):=rfl
structure C6(af:Nat)(F:Fx)(m:Mem)(w:World)(S:Wd)(g BU:Nat)(a:Option Addr)(n cp:Nat)(wr:World):Prop where
 ex:∃M C:List Int,n=C.length∧n≤BU∧dN (BU-n) M C=dN BU S.Eg.aK []∧M.length≤64∧(∀x∈M,0≤x∧x<S.Eg.bV.length)∧(∀x∈C,0≤x∧x<S.Eg.bV.length)∧
  wr.ownsRow af 3 1 (.slice a n cp) n (C.map I)∧At af F m w m wr {S with Eg:={S.Eg with aK:=M}}
 C7:∀gb,a=some ⟨gb,0,none⟩→(m.aV (.cache g)=some gb∧m.cap (.cache g)=cp)∨(∀r',m.aV r'≠some gb)∧w.heap.size≤gb
theorem AN{w:World}{e size n g c:Nat}{xs:List Value}(h:w.ownsRow af e size (.slice (some ⟨g,0,none⟩) n c) n xs){a:Addr}(ha:a.block≠g)(u:Value):(w.setCell a u).ownsRow af e size (.slice (some ⟨g,0,none⟩) n c) n xs:=by
 obtain⟨h1,h2⟩:=h;refine⟨h1,?_⟩;rcases h2 with h2|⟨g',cap,cur,hv,hg,hh,r⟩
 ·exact .inl h2
 ·cases hv;exact .inr ⟨g,c,cur,rfl,hg,by rw[fQ _ _ _ _ (dE ha)];exact hh,r⟩
theorem vZ(w:World)(u:Value)(t:TypeId):(w.alloc (.cells #[u] t)).cell? ⟨w.heap.size,0,none⟩=some u:=sX
theorem SI{a:Option Addr}{n cp g2 hU P:Nat}{W:World}(hw:Value.slice a n cp=.slice (some ⟨g2,0,none⟩) n hU∨g2=W.heap.size)(Fb:∀gb,a=some ⟨gb,0,none⟩→gb=P→False)(dD:P<W.heap.size):(some g2:Option Nat)≠some P:=by
 intro e
 cases e;rcases hw with h|h
 ·cases h;exact Fb _ rfl rfl
 ·omega
theorem LS{W wr w2:World}{o:Obj}{a:Option Addr}{n cp g g2 hU BU mb k:Nat}{x:Int}{M' C:List Int}(hA:At af F m w m wr {S with Eg:={S.Eg with aK:=M'++[x]}})(AO:n=C.length)(RC:dN (BU-n) (M'++[x]) C=dN BU S.Eg.aK [])(OG:M'.length+1≤64)(SJ:∀y∈M'++[x],0≤y∧y<S.Eg.bV.length)(RD:∀y∈C,0≤y∧y<S.Eg.bV.length)(gp:∀gb,a=some ⟨gb,0,none⟩→(m.aV (.cache g)=some gb∧m.cap (.cache g)=cp)∨(∀r',m.aV r'≠some gb)∧w.heap.size≤gb)(dD:n<BU)(ny:m.aV .aK=some mb)(hk:k=M'.length)(fu:w2.ownsRow af 3 1 (.slice (some ⟨g2,0,none⟩) (n+1) hU) (n+1) (C.map I++[I x]))(bX:W.grownBy w2 (some g2))(hW:W=wr.alloc o)(aI6:Value.slice a n cp=.slice (some ⟨g2,0,none⟩) n hU∨g2=W.heap.size)(hc:S.Eg.aC[g]?=some []):C6 af F m w S g BU (some ⟨g2,0,none⟩) (n+1) hU (w2.setCell ⟨F.Eg,3,none⟩ (.slice (some ⟨mb,0,none⟩) k (m.cap .aK))):=by
 subst hW;have A1:=hA.alloc o;have r8:g2=(wr.alloc o).heap.size→(∀r',m.aV r'≠some g2)∧w.heap.size≤g2:=fun h=>⟨fun r' e=>by have:=A1.bj.lt e;omega,by rw[h];exact A1.mv.size⟩
 have V6:(m.aV (.cache g)=some g2∧m.cap (.cache g)=hU)∨(∀r',m.aV r'≠some g2)∧w.heap.size≤g2:=by
  rcases aI6 with h|h
  ·cases h;exact gp g2 rfl
  ·exact .inr (r8 h)
 have A2:At af F m w m w2 {S with Eg:={S.Eg with aK:=M'++[x]}}:=by
  rcases V6 with h|h
  ·exact A1.Ld (r:=.cache g) (p:=(3,1)) rfl h.1 (by simp[aj,hc]) h.2 bX fu
  ·exact A1.NP bX h
 have A3:=A2.Vv ny (n:=k) (by simp[hk]);have ht:(M'++[x]).take k=M':=by rw[hk];simp
 have cM:F.Eg≠g2:=by
  rcases V6 with h|h
  ·exact A2.bj.ne A2.bj.aB.Eg h.1 sX
  ·exact fun e=>h.1 .Eg (by rw[←e];exact A2.bj.aB.Eg)
 refine⟨⟨M',C++[x],by simp[AO],oX,?_,oX,fun y hy=>SJ y (by simp[hy]),fun y hy=>?_,?_,?_⟩,fun gb e=>by cases e;exact V6⟩
 ·rw[←RC,show BU-n=(BU-(n+1))+1 by omega,LQ]
 ·rw[List.mem_append]at hy;rcases hy with h|h
  ·exact RD y h
  ·exact SJ y (by simp at h;simp[h])
 ·have:=AN fu (a:=⟨F.Eg,3,none⟩) cM (.slice (some ⟨mb,0,none⟩) k (m.cap .aK));simpa using this
 ·have h:=A3;simp only[ht]at h;exact h
theorem Fh:∀(k:Nat) (M C:List Int),C.length≤(dN k M C).2.length
 |0,M,C=>Nat.le_refl _
 |k+1,M,C=>by
  unfold dN;split
  ·exact Nat.le_refl _
  ·rename_i x h;have:=Fh k M.dropLast (C++[x]);simp at this;omega
theorem Is{k:Nat}{M:List Int}(hk:1≤k)(h:dN k M []=([],[])):M=[]:=by
 cases hl:M.getLast? with
 |none=>exact List.getLast?_eq_none_iff.1 hl
 |some x=>
  obtain⟨q,rfl⟩:∃q,k=q+1:=⟨k-1,oX⟩;unfold dN at h;rw[hl]at h;have:=Fh q M.dropLast ([]++[x]);simp only at h;rw[h]at this;simp at this
theorem Kj{w:World}{af e n k:Nat}{a:Option Addr}{cp:Nat}{xs:List Value}(h:w.ownsRow af e 1 (.slice a n cp) n xs)(hk:k≤n)(h0:0<n):w.ownsRow af e 1 (.slice a k cp) k (xs.take k):=by
 obtain⟨h1,h2⟩:=h;rcases h2 with⟨_,h2⟩|⟨g',cap,cur,hv,hg,hh,h3,h4,h5,h6⟩
 ·omega
 ·cases hv;refine⟨bi8,.inr ⟨g',cp,cur,rfl,hg,hh,oX,h4,h5,?_⟩⟩;rw[←h6,List.take_take];congr 1;omega
theorem It{w:World}{af e n:Nat}{a:Option Addr}{cp:Nat}{xs:List Value}(h:w.ownsRow af e 1 (.slice a n cp) n xs)(h0:0<n):∃g,a=some ⟨g,0,none⟩∧n≤cp∧g<w.heap.size:=by
 have h':=h;obtain⟨h1,h2⟩:=h;rcases h2 with⟨_,h2⟩|⟨g',cap,cur,hv,hg,hh,h3,h4,h5,h6⟩
 ·omega
 ·cases hv;exact⟨g',rfl,h3,(h'.lt g' rfl).2⟩
theorem BV{wr:World}{gb n cp g j:Nat}{C:List Int}{M:List Int}(hA:At af F m w m wr {S with Eg:={S.Eg with aK:=M}})(hc:S.Eg.aC[g]?=some [])(hn:n=C.length)(h0:0<n)(hown:wr.ownsRow af 3 1 (.slice (some ⟨gb,0,none⟩) n cp) n (C.map I))(gp:(m.aV (.cache g)=some gb∧m.cap (.cache g)=cp)∨(∀r',m.aV r'≠some gb)∧w.heap.size≤gb):To af F m w {S with Eg:={S.Eg with aK:=M,aC:=S.Eg.aC.set g C.dropLast,bV:=S.Eg.bV.set j false}} ((wr.setCell ⟨F.aC,g,none⟩ (.slice (some ⟨gb,0,none⟩) (n-1) cp)).setCell ⟨F.bV,j,none⟩ (B false)):=by
 have h1:=Kj hown (k:=n-1) oX h0;have hd:C.dropLast=C.take (n-1):=by rw[List.dropLast_eq_take,hn]
 have Lw:C.dropLast.length=n-1:=by rw[List.length_dropLast,hn]
 rw[←List.map_take,←hd]at h1;have A1:=hA.NQ (g:=g) (gb:=gb) (cp:=cp) (c:=[]) (d:=C.dropLast) hc (by rw[Lw];exact h1) (by rcases gp with h|h;exact .inl h.1;exact .inr h);have A2:=A1.bV j false;rw[Lw]at A2;exact⟨_,A2⟩
theorem Iu(R:bz af F w m S)(ok:S.Eg.Ok)(g:Nat)(hc:S.Eg.aC[g]?=some []):Calls prog 154 #[.pointer (some ⟨F.Eg,0,none⟩),I g] w (eL (.tuple #[I (S.Eg.take g).2.1,.bool (S.Eg.take g).2.2]) fun w'=>To af F m w {S with Eg:=(S.Eg.take g).1} w'):=by
 have eM:g<S.Eg.aC.length:=cA hc;have c2:=R.pf;have cc:=R.tH hc;obtain⟨a,cp,hh⟩:=wT R hc;rw[hh]at cc;have hown:=R.owns (r:=.cache g) (p:=(3,1)) rfl dX (n:=0) (by simp[aj,hc]);have jM:aj m S (.cache g)=[]:=by simp only[aj,hc,List.map_nil]
 rw[jM]at hown;rw[List.length_nil]at hh;rw[hh]at hown;obtain⟨BU,V7⟩:=dC (max 1 (S.Eg.most.toNat / 2));have Er:1≤BU∧BU≤8:=by have:=ok.m0;have:=ok.m1;omega
 obtain⟨i0,hi,fV,gF,gG⟩:=info_parts lC;have OH:1≤S.Eg.most∧S.Eg.most≤16:=⟨ok.m0,ok.m1⟩
 have XH:Hid (C6 af F m w S g BU a 0 cp w):=by
  refine⟨⟨S.Eg.aK,[],rfl,oX,sX,ok.ml,ok.mid,sX,hown,At.refl R⟩,fun gb e=>?_⟩;subst e
  cases hb:m.aV (.cache g) with
  |none=>rw[Mem.j6 hb]at hh;cases hh
  |some b=>rw[Mem.de hb]at hh;cases hh;exact .inl ⟨rfl,rfl⟩
 obtain⟨mo,Kk⟩:=dC (S.Eg.most);rw[←Kk]at OH;have hmx:(if(1:Int)<mo / 2 then mo / 2 else 1)=(BU:Int):=by rw[V7,Kk];have:=ok.m0;split<;>omega
 have Zx:=ag Kk;have V8:=ag V7;have lP:=ag ok;have HC:=ag hc;clear R hc hh hown jM V7 ok Kk;go_enter func154,ntmps154;go_wp2;go_loopw [6,7] (fun v _ wr=>∃a n cp,v=.slice a n cp∧n≤8∧Hid (C6 af F m w S g BU a n cp wr)) (fun v _ _=>8-(match v with| .slice _ n _=>n|_=>0))
 case atStart=>exact⟨a,0,cp,rfl,oX,XH⟩
 case round=>
  obtain⟨a,n,cp,rfl,hn8,HF⟩:=hrel;obtain⟨M,C,AO,RE,RC,OG,SJ,RD,hown,hA⟩:=HF.out.ex;have R:=hA.bj;have c1:=R.NO;have c3:=R.uK;have c4:=R.Ho;have c0:=R.YB;rw[show({S with Eg:={S.Eg with aK:=M}}:Wd).Eg.most=mo from Zx.out.symm]at c1;obtain⟨ma,mc,Nt⟩:=uL R;have C8:m.cU .aK M.length=.slice ma M.length mc:=Nt;rw[Nt]at c3;have HA:=ag hA;by_cases hM:M=[]
  ·have r9:dN BU S.Eg.aK []=([],C):=by rw[←RC,hM,OF]
   subst hM;have yV:=ag r9;by_cases vN:n=0
   ·subst vN;have hC0:C=[]:=xn AO.symm;have ht:S.Eg.take g=if S.Eg.cO<S.Eg.size then({S.Eg with cO:=S.Eg.cO+1},S.Eg.cO,true)else(S.Eg,0,false):=(by unfold fS.take;simp only[HC.out,fS.filled,dt,←V8.out,r9,hC0,List.getLast?_nil]);have HT:=ag ht;obtain⟨f,hf⟩:∃f:Nat,S.Eg.cO=f:=⟨S.Eg.cO.toNat,by have:=lP.out.f0;omega⟩;have ay8:f≤64:=(by have:=lP.out.f1;have:=lP.out.len;omega);have c4':wr.cell? ⟨F.Eg,4,none⟩=some (I f):=(by rw[←hf];exact c4);have f4:=R.frozen R.aB.Eg 4;have SL:=Is Er.1 (by rw[r9,hC0]);have hA':At af F m w m wr S:=hA.eq (by cases S with|mk a1 a2 a3 a4 a5 a6 a7 a8 a9 a10 p b1 b2 b3 b4=>cases p;simp at SL;simp[SL]);have V9:=ag hA';have oi:=R.lt R.aB.Eg;have c3z:wr.cell? ⟨F.Eg,3,none⟩=some (.slice ma 0 mc):=c3;obtain⟨sz,LU⟩:=dC (S.Eg.size);have c0':wr.cell? ⟨F.Eg,0,none⟩=some (I sz):=(by rw[LU];exact c0);have xW:=ag LU;have HFF:=ag hf;by_cases hsz:(f:Int)<sz
    ·have hd:decide ((f:Int)<sz)=true:=(by simpa using hsz);have HT2:Hid (S.Eg.take g=({S.Eg with cO:=f+1},(f:Int),true)):=(by show _=_;rw[ht,hf,aF (by rw[←LU];exact hsz)]);have A1:=ag (hA'.cO (f+1));clear AO R hC0 ht hf hA hA' SL r9 yV RC hown SJ RD Nt C8 XH HF HA c4 c3 c0 LU HT;go_wp2;go_quiet (fail);go_wp2;go_ret2;rw[HT2.out];exact⟨rfl,_,A1.out.aI⟩
    ·have hd:decide ((f:Int)<sz)=false:=(by simpa using hsz);have HT2:Hid (S.Eg.take g=(S.Eg,0,false)):=(by show _=_;rw[ht,hf,aE (by rw[←LU];exact hsz)]);clear AO R hC0 ht hf hA hA' SL r9 yV RC hown SJ RD Nt C8 XH HF HA c4 c3 c0 LU HT;go_wp2;go_quiet (fail);go_wp2;go_ret2;rw[HT2.out];exact⟨rfl,_,V9.out.aI⟩
   ·have c3z:wr.cell? ⟨F.Eg,3,none⟩=some (.slice ma 0 mc):=c3;have xS:0<n:=oX;obtain⟨gb,rfl,rj,UO⟩:=It hown xS
    obtain⟨y,hy⟩:∃y,C.getLast? =some y:=by
     exact bc2
    have OI:C≠[]:=(by intro e;rw[e]at AO;simp at AO;omega);obtain⟨y',NW,rN,_⟩:=pK OI;rw[hy]at NW;obtain rfl:y=y':=mx NW;have Wa:=RD y (lf rN);obtain⟨j,hj⟩:∃j:Nat,y=j:=⟨y.toNat,oX⟩;have vy:j<S.Eg.bV.length:=oX;have ht:S.Eg.take g=({S.Eg with aK:=[],aC:=S.Eg.aC.set g C.dropLast,bV:=S.Eg.bV.set j false},(j:Int),true):=br4;have HT:=ag ht;obtain⟨q,hq⟩:∃q,n=q+1:=⟨n-1,oX⟩;have Zy:=ag (BV (j:=j) (C:=C) hA HC AO xS hown (HF.out.C7 gb rfl));rw[hq,show q+1-1=q by omega]at Zy;have cy:wr.cell? ⟨gb,q,none⟩=some (I j):=bw0;have VU:IntKind.i64.wrap (((q+1:Nat):Int)-1)=(q:Int):=bv4;have c2':=R.pf;have c5':=R.Bz;have ccg:=R.tH HC;have fcg:=R.frozen R.aB.aC g;obtain⟨oH,Ki⟩:∃oH,S.Eg.bV[j]?=some oH:=⟨_,fv vy⟩;have chj:=R.bV (j:=j) (b:=oH) Ki;have fhj:=R.frozen R.aB.bV j;obtain⟨oi,oy,sQ,lS,oj,lT,lU,om,lV⟩:=R.b3X R.aB.Eg R.aB.aC R.aB.bV;subst hq;clear R hA RC hown SJ RD Nt C8 XH HF HA Wa rN hy NW OI hj ht Ki AO r9 yV c3 hmx;go_wp2;go_region;go_wp2;go_ret2;rw[HT.out];exact⟨rfl,by obtain⟨mm,hh⟩:=Zy.out;exact⟨mm,hh.aI⟩⟩
  ·obtain⟨M',x,rfl⟩:∃M' x,M=M'++[x]:=⟨_,_,(List.dropLast_concat_getLast hM).symm⟩;obtain⟨mb,ny⟩:=R.has (r:=.aK) bn5;have G7:m.cU .aK (M'++[x]).length=.slice (some ⟨mb,0,none⟩) (M'++[x]).length (m.cap .aK):=Mem.de ny _;have XI:=R.uK;rw[show({S with Eg:={S.Eg with aK:=M'++[x]}}:Wd).Eg.aK.length=(M'++[x]).length from rfl,G7]at XI;have yU:=R.NH (r:=.aK) (p:=(3,1)) rfl dX ny;simp only[aj,ko,py,sV,List.length_nil,Nat.mul_one]at yU;rw[py]at XI OG;simp only[sV,List.length_nil]at XI OG;obtain⟨k,hk⟩:=dC (M'.length);have c3':wr.cell? ⟨F.Eg,3,none⟩=some (.slice (some ⟨mb,0,none⟩) (k+1) (m.cap .aK)):=by rw[hk];simpa using XI
   have ay9:k≤64:=oX;have aw8:k+1≤m.cap .aK:=oX;have hkp:0<k+1:=oX;have cx:wr.cell? ⟨mb,k,none⟩=some (I x):=R.cell ny (by simp[aj,hk]);have f3:=R.frozen R.aB.Eg 3;by_cases dD:n<BU
   ·have VU:IntKind.i64.wrap (((k+1:Nat):Int)-1)=(k:Int):=bv4;obtain⟨HK,RF,UP,HMR,HCR,HOW⟩:=mr hk AO RC SJ RD hown;have ao8:=ag OG;have Zz:=ag ny;have hbase:=R.eS;have xS:n+1≤maxLen:=bj4;have EI:(n+1)*8≤140737488355328:=oX;have oi:=R.lt R.aB.Eg;have aw9:=R.lt ny
    have Ep:=ag (fun gb (e:a=some ⟨gb,0,none⟩) (q:gb=F.Eg)=>(by
     rcases HF.out.C7 gb e with h|h
     ·exact R.ne h.1 R.aB.Eg sX q
     ·exact h.1 .Eg (by rw[q];exact R.aB.Eg):False))
    clear R hM hk AO RC SJ RD hown Nt C8 c3 XI OG XH hA G7 yU ny;go_wp2_with (at_builtin;go_loud (refine lD rfl (.tmp 47) (.tmp 55) 28 rfl af 3 i0 (.int .i64 0) 8 underlying28 hi fV gF gG rfl _ n (C.map I) rfl (ou (o:=.cells #[I x] 3) HOW rfl) ⟨wr.heap.size,0,none⟩ 1 (I x) rfl (vZ _ _ _) rfl xS EI bi8 ?_;intro g2 hU w2 fu jV aI6;have xw:=SI (P:=F.Eg) aI6 Ep bi8;have c3p:=fW (o:=.cells #[I x] 3) jV c3' rfl xw;have f3p:=fN (o:=.cells #[I x] 3) jV f3 oi rfl xw;obtain⟨OJ,nU,Rr⟩:=ij fu jV aI6;clear fu jV aI6 xw c3' f3));go_roundw
    case rel=>exact⟨some ⟨g2,0,none⟩,n+1,hU,⟨rfl,rfl,rfl⟩,oX,LS HA RF UP ao8 HMR HCR HF.out.C7 dD Zz HK OJ nU rfl Rr HC⟩
    case measure=>omega
   ·have Wb:n=BU:=oX;have r9:dN BU S.Eg.aK []=(M'++[x],C):=(by rw[←RC,Wb,Nat.sub_self,LR]);have xS:0<n:=oX;obtain⟨gb,rfl,rj,UO⟩:=It hown xS
    obtain⟨y,hy⟩:∃y,C.getLast? =some y:=by
     exact bc2
    have OI:C≠[]:=(by intro e;rw[e]at AO;simp at AO;omega);obtain⟨y',NW,rN,_⟩:=pK OI;rw[hy]at NW;obtain rfl:y=y':=mx NW;have Wa:=RD y (lf rN);obtain⟨j,hj⟩:∃j:Nat,y=j:=⟨y.toNat,oX⟩;have vy:j<S.Eg.bV.length:=oX;have ht:S.Eg.take g=({S.Eg with aK:=M'++[x],aC:=S.Eg.aC.set g C.dropLast,bV:=S.Eg.bV.set j false},(j:Int),true):=br4;have HT:=ag ht;obtain⟨q,hq⟩:∃q,n=q+1:=⟨n-1,oX⟩;have Zy:=ag (BV (j:=j) (C:=C) hA HC AO xS hown (HF.out.C7 gb rfl));rw[hq,show q+1-1=q by omega]at Zy;have cy:wr.cell? ⟨gb,q,none⟩=some (I j):=bw0;have VU:IntKind.i64.wrap (((q+1:Nat):Int)-1)=(q:Int):=bv4;have c2':=R.pf;have c5':=R.Bz;have ccg:=R.tH HC;have fcg:=R.frozen R.aB.aC g;obtain⟨oH,Ki⟩:∃oH,S.Eg.bV[j]?=some oH:=⟨_,fv vy⟩;have chj:=R.bV (j:=j) (b:=oH) Ki;have fhj:=R.frozen R.aB.bV j;obtain⟨oi,oy,sQ,lS,oj,lT,lU,om,lV⟩:=R.b3X R.aB.Eg R.aB.aC R.aB.bV;subst hq;have az0:(if(1:Int)<mo / 2 then mo / 2 else 1)=((q+1:Nat):Int):=(by rw[hmx,←Wb]);clear R hA RC hown SJ RD Nt C8 XH HF HA Wa rN hy NW OI hj ht Ki AO r9 hM hk ny G7 XI yU hmx Wb dD RE;go_wp2;go_region;go_wp2;go_ret2;rw[HT.out];exact⟨rfl,by obtain⟨mm,hh⟩:=Zy.out;exact⟨mm,hh.aI⟩⟩
theorem yW(R:bz af F w m S)(ok:S.Eg.Ok)(g:Nat)(hg:g<S.Eg.aC.length):Calls prog 154 #[.pointer (some ⟨F.Eg,0,none⟩),I g] w (eL (.tuple #[I (S.Eg.take g).2.1,.bool (S.Eg.take g).2.2]) fun w'=>To af F m w {S with Eg:=(S.Eg.take g).1} w'):=by
 obtain⟨c,hc⟩:∃c,S.Eg.aC[g]?=some c:=⟨_,fv hg⟩;by_cases h0:c=[]
 ·subst h0;exact Iu R ok g hc
 ·exact Ir R ok g c hc h0
theorem At.LV(A:At af F m0 w0 m w S){g c:Nat}{l:List Int}(hg:w.grownBy w' (m.aV .aK))(hown:w'.ownsRow af 3 1 (.slice (some ⟨g,0,none⟩) l.length c) l.length (l.map I))(bE:m.aV .aK=some g∨w.heap.size≤g):At af F m0 w0 (m.eG .aK (some g) c) (w'.setCell ⟨F.Eg,3,none⟩ (.slice (some ⟨g,0,none⟩) l.length c)) {S with Eg:={S.Eg with aK:=l}}:=by
 refine A.row (p:=(3,1)) rfl bj8 A.bj.aB.Eg sX hg hown bE bn5 ?_ ?_
 ·simp[aj,Mem.cU,Mem.eG]
 ·intro r' h0 h1
  cases r'<;>first|exact aX rfl h0|exact aX rfl h1|rfl|(simp only[aj,Mem.cU,Mem.ptr,Mem.eG,reduceCtorEq,dF];done)|skip
  all_goals
   first
   |(simp only[aj]
     apply iI
     intro k x _
     first|(simp[gk,Mem.cU,Mem.eG];done)|(simp[je,Mem.cU,Mem.eG];done))
   |(simp only[aj]
     split
     ·apply iI
      intro k x _
      simp[Cu,Mem.cU,Mem.eG]
     ·rfl)
theorem At.Iv(A:At af F m0 w0 m w S){g gb cp:Nat}{c d:List Int}(h:S.Eg.aC[g]?=some c)(hg:w.grownBy w' (m.aV (.cache g)))(hown:w'.ownsRow af 3 1 (.slice (some ⟨gb,0,none⟩) d.length cp) d.length (d.map I))(bE:m.aV (.cache g)=some gb∨w.heap.size≤gb):At af F m0 w0 (m.eG (.cache g) (some gb) cp) (w'.setCell ⟨F.aC,g,none⟩ (.slice (some ⟨gb,0,none⟩) d.length cp)) {S with Eg:={S.Eg with aC:=S.Eg.aC.set g d}}:=
 A.row (p:=(3,1)) rfl bj8 A.bj.aB.aC sX hg hown bE (by simp[aj,oG h]) (rM h gb cp) (tg h _ _)
theorem OL(R:bz af F w m S)(ok:S.Eg.Ok)(g:Nat)(x:Int)(hg:g<S.Eg.aC.length)(hl:S.Eg.cK x=false):Calls prog 158 #[.pointer (some ⟨F.Eg,0,none⟩),I g,I x] w (eL (.bool false) fun w'=>At af F m w m w' S):=by
 have HL:=ag (BA R x ok.f1);rw[hl]at HL;have HR:=ag (At.refl R);have c2:=R.pf;clear R ok hl;go_enter func158,ntmps158;go_wp2_with (first|(go_at_call 207;refine HL.out.mono ?_;rintro e w' ⟨rfl,rfl⟩)|go_in);go_ret;exact⟨rfl,HR⟩
theorem Iw(M C:List Int):nS 0 M C=(M,C):=rfl
theorem Ix(n:Nat)(M C:List Int)(x:Int):nS (n+1) M (C++[x])=nS n (M++[x]) C:=by simp[nS]
structure yX(af:Nat)(F:Fx)(m:Mem)(w:World)(S:Wd)(g h:Nat)(c:List Int)(k:Nat)(wr:World):Prop where
 ex:∃m1 M,At af F m w m1 wr {S with Eg:={S.Eg with aK:=M}}∧nS (k-h) M (c.take k)=nS (c.length-h) S.Eg.aK c∧M.length≤100-k∧m1.aV (.cache g)=m.aV (.cache g)∧m1.cap (.cache g)=m.cap (.cache g)
theorem yY{W2 W3 w3:World}{m1:Mem}{g gb cp x k:Nat}{c M:List Int}{v:Value}{o:Obj}(A:At af F m w m1 W2 {S with Eg:={S.Eg with aK:=M}})(hc:S.Eg.aC[g]?=some c)(hW:W3.heap=(W2.alloc o).heap)(hWo:W3.os=W2.os)(hWt:W3.tape=W2.tape)(hWp:W3.output=W2.output)(hk:k≤c.length)(jz:v.ownBlock=m1.aV (.cache g))(ho:w3.ownsRow af 3 1 (.slice (some ⟨gb,0,none⟩) (k+1) cp) (k+1) ((c.take k).map I++[I x]))(hg:W3.grownBy w3 v.ownBlock)(hw:v.ownBlock=some gb∨W3.heap.size≤gb):To af F m w {S with Eg:={S.Eg with aK:=M,aC:=S.Eg.aC.set g (c.take k++[(x:Int)]),bV:=S.Eg.bV.set x true}} ((w3.setCell ⟨F.aC,g,none⟩ (.slice (some ⟨gb,0,none⟩) (k+1) cp)).setCell ⟨F.bV,x,none⟩ (B true)):=by
 rw[jz]at hg hw;have A1:At af F m w m1 W3 _:=(A.alloc o).aI hW hWo hWt hWp;have hl:(c.take k++[(x:Int)]).length=k+1:=bi8
 have hm:(c.take k++[(x:Int)]).map I=(c.take k).map I++[I x]:=sX
 have A2:=A1.Iv (g:=g) (gb:=gb) (cp:=cp) (c:=c) (d:=c.take k++[(x:Int)]) hc hg (by rw[hl,hm];exact ho) hw;have A3:=A2.bV x true;rw[hl]at A3;exact⟨_,A3⟩
theorem Iy{m1 m:Mem}{r:bH}(h1:m1.aV r=m.aV r)(h2:m1.cap r=m.cap r)(n:Nat):m1.cU r n=m.cU r n:=by simp[Mem.cU,h1,h2]
theorem Iz{wr W3 w3:World}{m1:Mem}{g h k gg cap:Nat}{y:Int}{c M:List Int}{v:Value}{o:Obj}(A:At af F m w m1 wr {S with Eg:={S.Eg with aK:=M}})(Ax:nS (k+1-h) M (c.take (k+1))=nS (c.length-h) S.Eg.aK c)(hM:M.length≤100-(k+1))(gq:m1.aV (.cache g)=m.aV (.cache g))(Fi:m1.cap (.cache g)=m.cap (.cache g))(hk:k<c.length)(hy:c[k]?=some y)(hh:h≤k)(oz:k≤90)(hW:W3.heap=(wr.alloc o).heap)(hWo:W3.os=wr.os)(hWt:W3.tape=wr.tape)(hWp:W3.output=wr.output)(jz:v.ownBlock=m1.aV .aK)(ho:w3.ownsRow af 3 1 (.slice (some ⟨gg,0,none⟩) (M.length+1) cap) (M.length+1) (M.map I++[I y]))(hg:W3.grownBy w3 v.ownBlock)(hw:v.ownBlock=some gg∨W3.heap.size≤gg):yX af F m w S g h c k (w3.setCell ⟨F.Eg,3,none⟩ (.slice (some ⟨gg,0,none⟩) (M.length+1) cap)):=by
 rw[jz]at hg hw;have A1:At af F m w m1 W3 _:=(A.alloc o).aI hW hWo hWt hWp;have hl:(M++[y]).length=M.length+1:=sX
 have hm:(M++[y]).map I=M.map I++[I y]:=sX
 have A2:=A1.LV (g:=gg) (c:=cap) (l:=M++[y]) hg (by rw[hl,hm];exact ho) hw;rw[hl]at A2;refine⟨_,M++[y],A2,?_,by rw[hl];omega,?_,?_⟩
 ·rw[←Ax,show k+1-h=(k-h)+1 by omega];have ht:c.take (k+1)=c.take k++[y]:=by rw[List.take_succ,hy];rfl
  rw[ht,Ix]
 ·rw[Mem.bN _ _ _ sX];exact gq
 ·rw[Mem.rH _ _ _ sX];exact Fi
theorem IA(R:bz af F w m S)(ok:S.Eg.Ok)(g:Nat)(x:Nat)(c:List Int)(hc:S.Eg.aC[g]?=some c)(hl:S.Eg.cK x=true):Calls prog 158 #[.pointer (some ⟨F.Eg,0,none⟩),I g,I x] w (oV fun w'=>To af F m w {S with Eg:=(S.Eg.nh g x).1} w'):=by
 have HL:=ag (BA R x ok.f1);rw[hl]at HL;have eM:g<S.Eg.aC.length:=cA hc;have gm:=ok.cl c (lf hc);have OH:1≤S.Eg.most∧S.Eg.most≤16:=⟨ok.m0,ok.m1⟩;have vI:x<S.Eg.bV.length:=by unfold fS.cK at hl;simp only[qs,decide_eq_true_eq]at hl;have:=ok.f1;omega
 obtain⟨i0,hi,fV,gF,gG⟩:=info_parts lC;have c1:=R.NO;have c2:=R.pf;have c3:=R.uK;have cc:=R.tH hc;obtain⟨a,cp,hh⟩:=wT R hc;rw[hh]at cc;obtain⟨n,hn⟩:=dC (c.length);rw[←hn]at cc gm;obtain⟨mo,Kk⟩:∃mo:Nat,S.Eg.most=mo:=⟨S.Eg.most.toNat,oX⟩;rw[Kk]at c1 OH;have HR:=ag (At.refl R);have OM:S.Eg.nh g x=({S.Eg with aK:=(S.Eg.mu c).1,aC:=S.Eg.aC.set g ((S.Eg.mu c).2++[(x:Int)]),bV:=S.Eg.bV.set x true},true):=by unfold fS.nh;simp only[hc,hl];simp
 have HGV:=ag OM;by_cases oI:n=mo
 ·subst oI;obtain⟨h,AP⟩:=dC (n / 2);have hdv:(n:Int) / 2=(h:Int):=by omega
  have Ax:S.Eg.mu c=nS (c.length-h) S.Eg.aK c:=by unfold fS.mu;rw[aF (by rw[Kk,hn]),Kk,oU,AP]
  rw[Ax]at HGV;have EI:((n:Int)==(n:Int))=true:=sX
  have HS0:Hid (yX af F m w S g h c n w):=⟨m,S.Eg.aK,HR,by rw[yl oX,hn],by have:=ok.ml;omega,rfl,rfl⟩;have hhn:h≤n:=oX
  have hh8:h≤8:=oX
  have ON:h+1≤n:=oX
  have HHN:=ag AP;obtain⟨HN,HC,HH,Zx⟩:=ia hn hc hh Kk;clear R ok hl hc hn Kk OM Ax hh AP;go_enter func158,ntmps158;go_wp2_with (first|(go_at_call 207;refine HL.out.mono ?_;rintro e w' ⟨rfl,rfl⟩)|go_in);go_loopw [7,8] (fun v _ wr=>∃k:Nat,v=.slice a k cp∧h≤k∧k≤n∧Hid (yX af F m w S g h c k wr)) (fun v _ _=>(match v with| .slice _ n _=>n|_=>0))
  case atStart=>exact⟨n,rfl,hhn,Nat.le_refl _,HS0⟩
  case round=>
   obtain⟨k,rfl,jg,jO,HS⟩:=hrel;obtain⟨m1,M,hA,Ax,hM,gq,Fi⟩:=HS.out.ex;have R:=hA.bj;have c1:=R.NO;have c3:=R.uK;obtain⟨ma,mc,Nt⟩:=uL R;rw[Nt]at c3;rw[show({S with Eg:={S.Eg with aK:=M}}:Wd).Eg.most=(n:Int)from Zx.out]at c1;have HA:=ag hA;by_cases dD:h<k
   ·obtain⟨q,rfl⟩:∃q,k=q+1:=⟨k-1,oX⟩;have hq:q<c.length:=(by rw[←HN.out];omega);obtain⟨y,hy⟩:∃y,c[q]?=some y:=⟨_,fv hq⟩;have Fj:=R.owns (r:=.cache g) (p:=(3,1)) rfl dX (n:=n) (by simp[aj,HC.out,HN.out]);have jM:aj m1 ({S with Eg:={S.Eg with aK:=M}}:Wd) (.cache g)=c.map I:=(by simp only[aj,HC.out]);rw[jM,Iy gq Fi,HN.out,HH.out,←HN.out]at Fj;obtain⟨gb,ha,az1,UO⟩:=It Fj oX;subst ha;have cy:wr.cell? ⟨gb,q,none⟩=some (I y):=(by rw[Fj.cellAt q oX,na,hy];rfl);have hown:=R.owns (r:=.aK) (p:=(3,1)) rfl dX (n:=M.length) bn5;have UQ:aj m1 ({S with Eg:={S.Eg with aK:=M}}:Wd) .aK=M.map I:=rfl;have C8:m1.cU .aK M.length=.slice ma M.length mc:=Nt;rw[UQ,C8]at hown;have jz:(Value.slice ma M.length mc).ownBlock=m1.aV .aK:=(by rw[←C8,Mem.mM]);have f3:=R.frozen R.aB.Eg 3;have oi:=R.lt R.aB.Eg;have hbase:=R.eS;obtain⟨ml,UR⟩:=dC (M.length);have c3':wr.cell? ⟨F.Eg,3,none⟩=some (.slice ma ml mc):=(by rw[UR];exact c3);rw[←UR]at hown jz;have xS:ml<1000001:=oX;have Np:=ag (fun(ops:Array Oper) (o:Oper) (ac:Act) (K:Act→World→Prop) (Q:Exit→Act→World→Prop) (E:Prop) (W3:World)=>jN (P:=prog) (ops:=ops) (o:=o) (a:=ac) (K:=K) (Q:=Q) (E:=E) (s:=.tmp 48) (x:=.tmp 53) (t:=28) (ht:=underlying28) (hi:=hi) (hz:=fV) (hsize:=gF) (hby:=gG) (hzs:=rfl) (hsz:=Nat.one_pos) (hbb:=vJ) (w2:=wr) (W3:=W3) (us:=#[I y]) (hus:=rfl) (h1:=aI8 y) (v:=.slice ma ml mc) (n:=ml) (xs:=M.map I) (hown:=hown) (hn:=xS) (hbase:=hbase));have Ep:=ag (show(Value.slice ma ml mc).ownBlock≠some F.Eg by rw[jz];exact R.jv R.aB.Eg sX);have VU:IntKind.i64.wrap (((q+1:Nat):Int)-1)=(q:Int):=bv4;have hqp:q+1≤cp:=oX;have hqq:(q:Int)<(q:Int)+1:=oX;obtain⟨Kc,HY,HQ,HSP,HM,pH⟩:=mr jz hy hq Ax hM gq;obtain⟨Sz,G8⟩:=dA Fi UR;clear R hA Ax hM gq Fi hq hy Fj jM hown UQ Nt C8 jz UR c3 cc c2 HS0 HS;go_wp2;go_region_law (refine Np _ _ _ _ _ _ _ rfl rfl rfl rfl rfl ?_;intro gg cap w3 ah8 bX bE;have c3p:=fW (o:=.cells #[I y] 3) bX c3' rfl Ep;have f3p:=fN (o:=.cells #[I y] 3) bX f3 oi rfl Ep;obtain⟨Iq,Ns,SH⟩:=ij ah8 bX bE;clear ah8 bX bE)
    all_goals
     go_wp2;go_roundw
     case rel=>exact⟨q,rfl,oX,oX,by have ho:=Iq.out;have hg:=Ns.out;have hw:=SH.out;have:=Iz (W3:=(wr.alloc (.cells #[I y] 3)).drew) (o:=.cells #[I y] 3) HA HSP HM pH Sz HQ HY oX oX rfl rfl rfl rfl Kc (by rw[←G8.out];exact ho) hg hw;rw[←G8.out]at this;exact this⟩
     case measure=>first|omega|exact Nat.lt_succ_self _|(simp;done)
   ·obtain rfl:k=h:=by omega
    have Fj:=R.owns (r:=.cache g) (p:=(3,1)) rfl dX (n:=n) (by simp[aj,HC.out,HN.out]);have jM:aj m1 ({S with Eg:={S.Eg with aK:=M}}:Wd) (.cache g)=c.map I:=(by simp only[aj,HC.out]);rw[jM,Iy gq Fi,HN.out,HH.out,←HN.out]at Fj;have hown:=Kj Fj (k:=k) jO oX;rw[←List.map_take]at hown
    have jz:(Value.slice a k cp).ownBlock=m1.aV (.cache g):=by
     rw[gq,←Mem.mM m (.cache g) c.length,HH.out]
     cases a<;>rfl
    have fcc:=R.frozen R.aB.aC g;have c5:=R.Bz;have c2':=R.pf;have ccg:=R.tH (S:={S with Eg:={S.Eg with aK:=M}}) HC;rw[Iy gq Fi,HH.out,←HN.out]at ccg;obtain⟨oH,Ki⟩:∃oH,S.Eg.bV[x]?=some oH:=⟨_,fv vI⟩;have ch:=R.bV (j:=x) (b:=oH) Ki;have fh:=R.frozen R.aB.bV x;obtain⟨oi,oy,sQ,lS,oj,lT,lU,om,lV⟩:=R.b3X R.aB.Eg R.aB.aC R.aB.bV;have hbase:=R.eS;have xS:k<1000001:=oX;have Np:=ag (fun(ops:Array Oper) (o:Oper) (ac:Act) (K:Act→World→Prop) (Q:Exit→Act→World→Prop) (E:Prop) (W3:World)=>jN (P:=prog) (ops:=ops) (o:=o) (a:=ac) (K:=K) (Q:=Q) (E:=E) (s:=.tmp 65) (x:=.tmp 67) (t:=28) (ht:=underlying28) (hi:=hi) (hz:=fV) (hsize:=gF) (hby:=gG) (hzs:=rfl) (hsz:=Nat.one_pos) (hbb:=vJ) (w2:=wr) (W3:=W3) (us:=#[I x]) (hus:=rfl) (h1:=aI8 x) (v:=.slice a k cp) (n:=k) (xs:=(c.take k).map I) (hown:=hown) (hn:=xS) (hbase:=hbase));have Ep:=ag (show(Value.slice a k cp).ownBlock≠some F.Eg by rw[jz];exact R.jv R.aB.Eg sX);have RF:=ag (show(Value.slice a k cp).ownBlock≠some F.aC by rw[jz];exact R.jv R.aB.aC sX);have ZA:=ag (show(Value.slice a k cp).ownBlock≠some F.bV by rw[jz];exact R.jv R.aB.bV sX);obtain⟨Kc,HSP⟩:=dA jz Ax;clear R hA Ax hM gq Fi Ki Fj jM hown Nt jz c2 cc HS0 HS;go_wp2;go_region_law (refine Np _ _ _ _ _ _ _ rfl rfl rfl rfl rfl ?_;intro gg cap w3 ah8 bX bE;have c2p:=fW (o:=.cells #[I x] 3) bX c2' rfl Ep;have c5p:=fW (o:=.cells #[I x] 3) bX c5 rfl Ep;have ccp:=fW (o:=.cells #[I x] 3) bX ccg rfl RF;have fcp:=fN (o:=.cells #[I x] 3) bX fcc oy rfl RF;have chp:=fW (o:=.cells #[I x] 3) bX ch rfl ZA;have fhp:=fN (o:=.cells #[I x] 3) bX fh sQ rfl ZA;obtain⟨Iq,Ns,SH⟩:=ij ah8 bX bE;clear ah8 bX bE)
    all_goals
     go_wp2;go_ret;rw[HGV.out];refine⟨rfl,?_⟩;have hs:=HSP.out;rw[Nat.sub_self,Iw]at hs;rw[←hs];exact yY (W2:=wr) (W3:=(wr.alloc (.cells #[I x] 3)).drew) (o:=.cells #[I x] 3) (g:=g) (x:=x) (k:=k) HA HC rfl rfl rfl rfl (by rw[←HN.out];exact jO) Kc Iq Ns SH
 ·have Ax:S.Eg.mu c=(S.Eg.aK,c):=by unfold fS.mu;rw[aE oX]
  rw[Ax]at HGV;have hown:=R.owns (r:=.cache g) (p:=(3,1)) rfl dX (n:=n) (by simp[aj,hc,hn]);have jM:aj m S (.cache g)=c.map I:=by simp only[aj,hc]
  rw[jM]at hown;rw[←hn]at hh;have jz:(Value.slice a n cp).ownBlock=m.aV (.cache g):=by rw[←hh,Mem.mM]
  rw[hh]at hown;have EI:((n:Int)==(mo:Int))=false:=bi8
  have fcc:=R.frozen R.aB.aC g;have c5:=R.Bz;obtain⟨oH,Ki⟩:∃oH,S.Eg.bV[x]?=some oH:=⟨_,fv vI⟩;have ch:=R.bV Ki;have fh:=R.frozen R.aB.bV x;obtain⟨oi,oy,sQ,lS,oj,lT,lU,om,lV⟩:=R.b3X R.aB.Eg R.aB.aC R.aB.bV;have hbase:=R.eS;have xS:n<1000001:=oX
  have Np:=ag (fun(ops:Array Oper) (o:Oper) (ac:Act) (K:Act→World→Prop) (Q:Exit→Act→World→Prop) (E:Prop) (W3:World)=>jN (P:=prog) (ops:=ops) (o:=o) (a:=ac) (K:=K) (Q:=Q) (E:=E) (s:=.tmp 65) (x:=.tmp 67) (t:=28) (ht:=underlying28) (hi:=hi) (hz:=fV) (hsize:=gF) (hby:=gG) (hzs:=rfl) (hsz:=Nat.one_pos) (hbb:=vJ) (w2:=w) (W3:=W3) (us:=#[I x]) (hus:=rfl) (h1:=aI8 x) (v:=.slice a n cp) (n:=n) (xs:=c.map I) (hown:=hown) (hn:=xS) (hbase:=hbase));have Ep:=ag (show(Value.slice a n cp).ownBlock≠some F.Eg by rw[jz];exact R.jv R.aB.Eg sX);have RF:=ag (show(Value.slice a n cp).ownBlock≠some F.aC by rw[jz];exact R.jv R.aB.aC sX);have ZA:=ag (show(Value.slice a n cp).ownBlock≠some F.bV by rw[jz];exact R.jv R.aB.bV sX);obtain⟨Kc,HN,HC⟩:=ij jz hn hc;clear R ok hl hc hn Kk OM Ax hown jM jz hh Ki oI;go_enter func158,ntmps158;go_wp2_with (first|(go_at_call 207;refine HL.out.mono ?_;rintro e w' ⟨rfl,rfl⟩)|go_in);go_region_law (refine Np _ _ _ _ _ _ _ rfl rfl rfl rfl rfl ?_;intro gg cap w3 ah8 bX bE;have c2p:=fW (o:=.cells #[I x] 3) bX c2 rfl Ep;have c5p:=fW (o:=.cells #[I x] 3) bX c5 rfl Ep;have ccp:=fW (o:=.cells #[I x] 3) bX cc rfl RF;have fcp:=fN (o:=.cells #[I x] 3) bX fcc oy rfl RF;have chp:=fW (o:=.cells #[I x] 3) bX ch rfl ZA;have fhp:=fN (o:=.cells #[I x] 3) bX fh sQ rfl ZA;obtain⟨Iq,Ns,SH⟩:=ij ah8 bX bE;clear ah8 bX bE)
  all_goals
   go_wp2;go_ret;rw[HGV.out];refine⟨rfl,?_⟩;have hAm:At af F m w m w {S with Eg:={S.Eg with aK:=S.Eg.aK}}:=HR.out;have hk:=yl (l:=c) (i:=n) (by rw[HN.out];exact Nat.le_refl _);have:=yY (W2:=w) (W3:=(w.alloc (.cells #[I x] 3)).drew) (o:=.cells #[I x] 3) (g:=g) (x:=x) (k:=n) hAm HC rfl rfl rfl rfl (by rw[HN.out];exact Nat.le_refl _) Kc (by rw[hk];exact Iq) Ns SH;rw[hk]at this;exact this
end
section
variable{af:Nat}{F:Fx}{w w0:World}{m m0:Mem}{S:Wd}
theorem bz.eU(R:bz af F w m S){i:Nat}{r:Ring}(h:S.au[i]?=some r):∃rb,m.aV (.eU i)=some rb∧∃a c,m.cU (.places i) r.places.length=.slice a r.places.length c∧w.cell? ⟨rb,0,none⟩=some (.slice a r.places.length c)∧w.cell? ⟨rb,1,none⟩=some (I r.first)∧w.cell? ⟨rb,2,none⟩=some (I r.count)∧(r.places≠[]→∃pb,m.aV (.places i)=some pb∧a=some ⟨pb,0,none⟩∧pb≠rb∧∀j v,r.places[j]?=some v→w.cell? ⟨pb,j,none⟩=some (I v)):=by
 obtain⟨rb,fA⟩:=R.has (r:=.eU i) bq5;refine⟨rb,fA,?_⟩
 obtain⟨a,c,hh⟩:∃a c,m.cU (.places i) r.places.length=.slice a r.places.length c:=by
  cases hb:m.aV (.places i) with
  |none=>
   have h0:=R.none_ _ hb;simp only[aj,h,List.map_eq_nil_iff]at h0;exact⟨none,0,by rw[Mem.j6 hb,h0];rfl⟩
  |some b=>exact⟨_,_,Mem.de hb _⟩
 refine⟨a,c,hh,?_,R.cell fA bq5,R.cell fA bq5,fun cM=>?_⟩
 ·rw[←hh];exact R.cell fA bq5
 ·obtain⟨pb,CJ⟩:=R.has (r:=.places i) (by simpa[aj,h]using cM);rw[Mem.de CJ]at hh
  cases hh;exact⟨pb,CJ,rfl,R.ne CJ fA,fun j v hv=>R.cell CJ (by simp[aj,h,hv])⟩
theorem qe{S:Wd}{i:Nat}{r:Ring}{y:Ring}(h:S.au[i]?=some r)(g:Nat):(S.au.set i y)[g]?=if g=i then some y else S.au[g]?:=by
 exact bf9
theorem At.eU(A:At af F m0 w0 m w S){i rb q:Nat}{r:Ring}(h:S.au[i]?=some r)(fA:m.aV (.eU i)=some rb)(y:Ring)(hp:y.places=r.places){v:Value}(hy:[m.cU (.places i) y.places.length,I y.first,I y.count]=[m.cU (.places i) r.places.length,I r.first,I r.count].set q v):At af F m0 w0 m (w.setCell ⟨rb,q,none⟩ v) (S.dZ i y):=by
 refine A.set fA ?_ ?_
 ·simp only[aj,Wd.dZ,qe h,dt,h];exact hy
 ·intro r' hT
  cases r'<;>first|exact aX rfl hT|rfl|(simp only[aj,Wd.dZ,kI];done)|skip
  all_goals
   rename_i k;simp only[aj,Wd.dZ,qe h];by_cases e:k=i
   ·subst e;first|exact aX rfl hT|(simp only[dt,h,hp])
   ·simp only[aE e]
theorem At.ae(A:At af F m0 w0 m w S){i pb j:Nat}{r:Ring}(h:S.au[i]?=some r)(CJ:m.aV (.places i)=some pb)(v:Int):At af F m0 w0 m (w.setCell ⟨pb,j,none⟩ (I v)) (S.dZ i {r with places:=r.places.set j v}):=by
 refine A.set CJ ?_ ?_
 ·simp only[aj,Wd.dZ,qe h,dt,h,List.map_set]
 ·intro r' hT
  cases r'<;>first|exact aX rfl hT|rfl|(simp only[aj,Wd.dZ,kI];done)|skip
  all_goals
   rename_i k;simp only[aj,Wd.dZ,qe h];by_cases e:k=i
   ·subst e;first|exact aX rfl hT|(simp only[dt,h,kI])
   ·simp only[aE e]
theorem uR{S:Wd}{j:Nat}{x y:Ring}(h:S.au[j]?=some x):(S.dZ j y).au[j]?=some y:=getElem?_set_self' h
theorem vM{S:Wd}{j:Nat}{x y:Ring}:(S.dZ j x).dZ j y=S.dZ j y:=by simp[Wd.dZ,my]
theorem sO{S:Wd}{j:Nat}{x:Ring}(h:S.au[j]?=some x):S.dZ j x=S:=by
 have:S.au.set j x=S.au:=by
  apply List.ext_getElem?;intro g;rw[qe h];split
  ·rename_i e;rw[e,h]
  ·rfl
 unfold Wd.dZ;rw[this]
section
variable(R:bz af F w m S){i rb:Nat}{r:Ring}(h:S.au[i]?=some r)(fA:m.aV (.eU i)=some rb)
include R h fA
theorem xR(ok:r.Ok)(k:Nat)(hk:k≤64)(h0:0<r.places.length):Calls prog 87 #[.pointer (some ⟨rb,0,none⟩),I k] w (eL (I (r.at_ k)) fun w'=>∃n,w'=w.drewN n):=by
 obtain⟨Hw,gr,a,c,hh,c0,c1,c2,_⟩:=R.eU h;rw[fA]at gr
 cases gr;obtain⟨f0,f1,_,_,cP⟩:=ok;obtain⟨f,hf⟩:∃f:Nat,r.first=f:=⟨r.first.toNat,oX⟩;have hfl:(f:Int)≤64:=oX
 obtain⟨n,hn⟩:=dC (r.places.length);have e:((r.at_ k:Nat):Int)=((f:Int)+k).tmod n:=by unfold Ring.at_;rw[hf,←hn,Int.tmod_eq_emod_of_nonneg oX,Int.toNat_of_nonneg (Int.emod_nonneg _ oX)]
 have E:=ag e;rw[←hn]at c0 h0 cP;rw[hf]at c1;have hs:IntKind.i64.wrap ((f:Int)+k)=(f:Int)+k:=jX _ oX;have vN:((n:Int)==0)=false:=bi8
 have hp:0≤(f:Int)+k:=oX
 clear R h fA f0 f1 hh e hf hn;go_enter func87,ntmps87;go_wp2;go_quiet (fail);go_wp2;go_ret;exact⟨by rw[E.out];rfl,_,rfl⟩
theorem vO:Calls prog 204 #[.pointer (some ⟨rb,0,none⟩)] w (eL (.bool r.full) fun w'=>∃n,w'=w.drewN n):=by
 obtain⟨Hw,gr,a,c,hh,c0,c1,c2,_⟩:=R.eU h;rw[fA]at gr
 cases gr;unfold Ring.full;obtain⟨n,hn⟩:=dC (r.places.length);obtain⟨k,hk⟩:=dC (r.count);rw[←hn]at c0 ⊢;rw[←hk]at c2 ⊢;clear R h fA hh hn hk;go_enter func204,ntmps204;go_wp2;go_quiet (fail);go_wp2;go_ret;exact⟨by first|rfl|(congr 1;simp[beq_eq_decide]),_,rfl⟩
theorem N1(ok:r.Ok)(v:Int):Calls prog 153 #[.pointer (some ⟨rb,0,none⟩),I v] w (eL (.bool (r.put v).2) fun w'=>At af F m w m w' (S.dZ i (r.put v).1)):=by
 obtain⟨Hw,gr,a,c,hh,c0,c1,c2,kM⟩:=R.eU h;rw[fA]at gr
 cases gr;have OK:=ag ok;obtain⟨f0,f1,k0,k1,cP⟩:=ok;obtain⟨k,hk⟩:∃k:Nat,r.count=k:=⟨r.count.toNat,oX⟩;have jO:k≤r.places.length:=oX
 have HR:=ag (At.refl R);have uv:=ag fA;have HH:=ag h;have HF:=ag (vO R h fA);unfold Ring.put Ring.full;rw[hk]at c2;by_cases oI:k=r.places.length
 ·rw[hk,aF (by simpa using congrArg (Nat.cast:Nat→Int) oI)];rw[sO h];rw[←oI]at c0;have hf:r.full=true:=by unfold Ring.full;rw[hk];simpa using congrArg (Nat.cast:Nat→Int) oI
  rw[hf]at HF;clear R h fA f0 f1 k0 k1 hh oI hk kM;go_enter func153,ntmps153;go_wp2_with fail
  refine HF.out.mono ?_;rintro e w' ⟨rfl,nq,rfl⟩;go_wp2;go_ret;exact⟨rfl,HR.out.drewN _⟩
 ·rw[hk,aE bi8];obtain⟨pb,CJ,rfl,cM,Nh⟩:=kM (by intro e;rw[e]at jO oI;simp at jO oI;omega);have CL:r.at_ k<r.places.length:=by unfold Ring.at_;have:=Int.emod_lt_of_pos (r.first+k) (b:=(r.places.length:Int)) oX;have:=Int.emod_nonneg (r.first+k) (b:=(r.places.length:Int)) oX;omega
  obtain⟨x,hx⟩:∃x,r.places[r.at_ k]?=some x:=⟨_,fv CL⟩;have cx:=Nh _ _ hx;have fx:=R.frozen CJ (r.at_ k);have f2:=R.frozen fA 2;have ks:=fun W (R:bz af F W m S)=>xR R h fA OK k oX oX
  obtain⟨j,hj⟩:=dC (r.at_ k);rw[←hj]at cx fx CL ks;rw[←hj];have UA:=ag ks;have wU:=R.lt fA;have UB:=R.lt CJ;have Lk:=cM.symm;obtain⟨n,hn⟩:=dC (r.places.length);rw[←hn]at c0 CL oI jO cP;have A1:=HR.out.ae (j:=j) HH CJ v;have A2:=ag (A1.eU (q:=2) (uR HH) uv {r with places:=r.places.set j v,count:=k+1} rfl (v:=I (k+1)) sX);have hb:((k:Int)==(n:Int))=false:=bi8
  have hf:r.full=false:=by unfold Ring.full;rw[hk,←hn];simp;omega
  rw[hf]at HF;clear R h fA f0 f1 k0 k1 hh hk kM Nh hx ks A1 hj hn oI hf;go_enter func153,ntmps153;go_wp2_with fail
  refine HF.out.mono ?_;rintro e w' ⟨rfl,nq,rfl⟩;go_wp2;go_region_with (go_at_call 87;refine(UA _ ?_).mono ?_;exact HR.out.bj.heap (fun _ _ _=>rfl);rintro e w' ⟨rfl,nq2,rfl⟩)
  all_goals
   go_wp2;go_ret;exact⟨rfl,(A2.out.eq (vM)).aI⟩
theorem N2(ok:r.Ok):Calls prog 209 #[.pointer (some ⟨rb,0,none⟩)] w (eL (.tuple #[I r.get.2.1,.bool r.get.2.2]) fun w'=>At af F m w m w' (S.dZ i r.get.1)):=by
 obtain⟨Hw,gr,a,c,hh,c0,c1,c2,kM⟩:=R.eU h;rw[fA]at gr
 cases gr;have OK:=ag ok;obtain⟨f0,f1,k0,k1,cP⟩:=ok;obtain⟨k,hk⟩:∃k:Nat,r.count=k:=⟨r.count.toNat,oX⟩;obtain⟨f,hf⟩:∃k:Nat,r.first=k:=⟨r.first.toNat,oX⟩;have jO:k≤r.places.length:=oX
 have HR:=ag (At.refl R);have uv:=ag fA;have HH:=ag h;unfold Ring.get;rw[hk]at c2;rw[hf]at c1;by_cases h0:k=0
 ·subst h0;rw[hk,aF (show((0:Nat):Int)=0 from rfl)];rw[sO h];have c3:w.cell? ⟨rb,2,none⟩=some (I 0):=c2;clear R h fA f0 f1 k0 k1 hh hk hf kM c2;go_enter func209,ntmps209;go_wp2;go_ret2;exact⟨rfl,HR⟩
 ·rw[hk,aE oX];obtain⟨pb,CJ,rfl,cM,Nh⟩:=kM (by intro e;rw[e]at jO;simp at jO;omega);have CL:f<r.places.length:=by omega
  obtain⟨x,hx⟩:∃x,r.places[f]?=some x:=⟨_,fv CL⟩;have cx:=Nh _ _ hx;have f1':=R.frozen fA 1;have f2':=R.frozen fA 2;have ks:=fun W (R:bz af F W m S)=>xR R h fA OK 1 oX oX
  have AF:r.places.getD f 0=x:=by simp[List.getD,hx]
  rw[hf,oU,AF];obtain⟨j,hj⟩:=dC (r.at_ (1:Nat));have Ni:r.at_ 1=j:=hj.symm;rw[←hj]at ks;rw[Ni];have UA:=ag ks;have wU:=R.lt fA;have UB:=R.lt CJ;have Lk:=cM.symm;obtain⟨n,hn⟩:=dC (r.places.length);rw[←hn]at c0 CL jO cP;have A1:=HR.out.eU (q:=1) HH uv {r with first:=j} rfl (v:=I j) sX;have A2:=ag (A1.eU (q:=2) (uR HH) uv {r with first:=j,count:=k-1} rfl (v:=I (k-1)) sX);have hb:((k:Int)==0)=false:=bi8
  clear R h fA f0 f1 k0 k1 hh hk kM Nh hx ks A1 hj Ni hn hf AF h0;go_enter func209,ntmps209;go_wp2;go_quiet (fail);go_wp2_with (go_at_call 87;refine(UA _ ?_).mono ?_;exact HR.out.bj.heap (fun _ _ _=>rfl);rintro e w' ⟨rfl,nq2,rfl⟩);go_ret2;exact⟨rfl,(A2.out.eq (vM)).aI⟩
theorem BH(ok:r.Ok)(v:Int):Calls prog 208 #[.pointer (some ⟨rb,0,none⟩),I v] w (eL (.tuple #[I (r.pass v).2.1,.bool (r.pass v).2.2]) fun w'=>At af F m w m w' (S.dZ i (r.pass v).1)):=by
 obtain⟨Hw,gr,a,c,hh,c0,c1,c2,kM⟩:=R.eU h;rw[fA]at gr
 cases gr;have OK:=ag ok;obtain⟨f0,f1,k0,k1,cP⟩:=ok;obtain⟨k,hk⟩:∃k:Nat,r.count=k:=⟨r.count.toNat,oX⟩;obtain⟨f,hf⟩:∃k:Nat,r.first=k:=⟨r.first.toNat,oX⟩;have jO:k≤r.places.length:=oX
 have HR:=ag (At.refl R);have uv:=ag fA;have HH:=ag h;have HF:=ag (fun W (R:bz af F W m S)=>vO R h fA);unfold Ring.pass;rw[hk]at c2;rw[hf]at c1;by_cases h0:k=0
 ·subst h0;rw[aF (Or.inl (show r.count=0 from hk))];rw[sO h];have c3:w.cell? ⟨rb,2,none⟩=some (I 0):=c2;clear R h fA f0 f1 k0 k1 hh hk hf kM c2 HF;go_enter func208,ntmps208;go_wp2;go_ret2;exact⟨rfl,HR⟩
 have hb:((k:Int)==0)=false:=bi8
 by_cases oI:k=r.places.length
 ·have VG:r.full=true:=by unfold Ring.full;rw[hk];simpa using congrArg (Nat.cast:Nat→Int) oI
  rw[hk,VG,aE bi8];rw[VG]at HF;obtain⟨pb,CJ,rfl,cM,Nh⟩:=kM (by intro e;rw[e]at jO;simp at jO;omega);have CL:f<r.places.length:=oX
  obtain⟨x,hx⟩:∃x,r.places[f]?=some x:=⟨_,fv CL⟩;have cx:=Nh _ _ hx;have fx:=R.frozen CJ f;have f1':=R.frozen fA 1;have AF:r.places.getD f 0=x:=by simp[List.getD,hx]
  rw[hf,oU,AF];obtain⟨j,hj⟩:=dC (r.at_ (1:Nat));have Ni:r.at_ 1=j:=hj.symm;rw[Ni];have A1:=HR.out.ae (j:=f) HH CJ v;have ks:=fun W (R:bz af F W m (S.dZ i {r with places:=r.places.set f v}))=>xR R (uR h) fA (r:={r with places:=r.places.set f v}) ⟨f0,by simpa using f1,k0,by simpa using k1,by simpa using cP⟩ 1 oX bi8
  have EL:Ring.at_ {r with places:=r.places.set f v} (1:Nat)=j:=by rw[hj];simp[Ring.at_]
  rw[EL]at ks;have UA:=ag ks;have wU:=R.lt fA;have UB:=R.lt CJ;have Lk:=cM.symm;obtain⟨n,hn⟩:=dC (r.places.length);rw[←hn]at c0 CL jO cP;have ri:=ag A1;have A2:=ag (A1.eU (q:=1) (uR HH) uv {r with places:=r.places.set f v,first:=j,count:=k} rfl (v:=I j) (by simp[hk]));clear R h fA f0 f1 k0 k1 hh hk kM Nh hx ks A1 hj Ni EL hn hf AF h0 VG oI;go_enter func208,ntmps208;go_wp2_with (go_at_call 204;refine(HF _ ?_).mono ?_;exact HR.out.bj.heap (fun _ _ _=>rfl);rintro e w' ⟨rfl,nq2,rfl⟩);go_quiet (fail);go_wp2;go_region
  all_goals
   go_wp2_with (go_at_call 87;refine(UA _ ?_).mono ?_;exact ri.out.bj.heap (fun _ _ _=>rfl);rintro e w' ⟨rfl,nq3,rfl⟩);go_ret2;exact⟨rfl,(A2.out.eq (vM)).aI⟩
 ·have VG:r.full=false:=by unfold Ring.full;rw[hk];simp;omega
  rw[VG,aF (Or.inr rfl)];rw[VG]at HF;rw[sO h];clear R h fA f0 f1 k0 k1 hh hk hf kM VG oI h0;go_enter func208,ntmps208;go_wp2_with (go_at_call 204;refine(HF _ ?_).mono ?_;exact HR.out.bj.heap (fun _ _ _=>rfl);rintro e w' ⟨rfl,nq2,rfl⟩);go_ret2;exact⟨rfl,HR.out.aI⟩
end
end
section
variable{af:Nat}{F:Fx}{w:World}{m:Mem}{S:Wd}
theorem N3{k n:Nat}(h:k<n):decide ((k:Int)<(n:Int))=true:=bj3
theorem Lp(R:bz af F w m S)(k x:Int)(q':bf)(b:Bool)(hm:S.aw.push k x=some (q',b)):Calls prog 103 #[.pointer (some ⟨F.aw,0,none⟩),I k,I x] w (eL (.bool b) fun w'=>At af F m w m w' {S with aw:=q'}):=by
 have HR:=ag (At.refl R);have cT:=R.xN;have cL:=R.yq;unfold bf.push at hm;by_cases hk:0≤k∧k<S.aw.bM.length
 ·obtain⟨kk,rfl⟩:∃j:Nat,k=j:=⟨k.toNat,oX⟩;have vA:kk<S.aw.bM.length:=by omega
  obtain⟨l,hl⟩:∃x,S.aw.bM[kk]?=some x:=⟨_,fv vA⟩;have hd:=N3 vA;by_cases hx:0≤x∧x<S.aw.aS.length
  ·obtain⟨j,rfl⟩:∃j:Nat,x=j:=⟨x.toNat,oX⟩;have hj:j<S.aw.aS.length:=by omega
   obtain⟨t,Nj⟩:∃x,S.aw.aS[j]?=some x:=⟨_,fv hj⟩;obtain⟨e0,e1,e2⟩:=R.thing Nj;obtain⟨l0,l1,l2⟩:=R.line hl;simp only[eR,hl,Nj,oU]at hm;by_cases hi:t.pX≠ -1
   ·rw[aF hi]at hm
    cases hm;have hb:(t.pX != -1)=true:=(by simpa using hi);clear R hk hx hl Nj hi;go_enter func103,ntmps103;exact aX3
   rw[aE hi]at hm;have Xy:t.pX= -1:=(by simpa using hi);rw[Xy]at e0;by_cases eK:kJ l.count=false
   ·rw[aF eK]at hm;cases hm
   rw[aE eK]at hm;have VH: -1000000000≤l.count∧l.count≤1000000000:=(by simpa[kJ]using eK);have fl:=R.frozen R.aB.bM;have ft:=R.frozen R.aB.aS;obtain⟨Lq,Lr,N4,vP,xr,vQ,xt,xu,xv⟩:=R.b3X R.aB.aw R.aB.aS R.aB.bM;have N5:=fun y z h=>R.thing (j:=y) (x:=z) h
   obtain⟨VI,J5,UC,VJ⟩:=ia Nj hl ft N5;have f2:=fl (kk*3+2);have f1:=fl (kk*3+1);have f0:=fl (kk*3);have ft0:=ft (j*3);have ft1:=ft (j*3+1);have ft2:=ft (j*3+2);obtain⟨c,hc⟩:=dC (l.last);rw[←hc]at l1;clear R hk hx Nj hl eK fl ft N5 hi Xy;by_cases ha:l.last= -1
   ·rw[aF ha]at hm
    cases hm;obtain rfl:c= -1:=by rw[hc,ha]
    rw[ha];have A1:=HR.out.vK VI {pX:=kk,behind:= -1,ahead:= -1};have A2:=A1.line (q:=0) (j:=kk) (x:=l) J5 {l with first:=j} oX (v:=I j) rfl;have A3:=A2.line (q:=1) (j:=kk) (x:={l with first:=j}) (lE J5) {l with first:=j,last:=j} oX (v:=I j) rfl;have A4:=ag (A3.line (q:=2) (j:=kk) (x:={l with first:=j,last:=j}) (lE (lE J5)) {first:=j,last:=j,count:=l.count+1} oX (v:=I (l.count+1)) rfl);clear ha hc A1 A2 A3;go_enter func103,ntmps103;go_wp2;go_region;go_wp2;go_ret;exact⟨rfl,(A4.out.eq bo2).drew⟩
   ·rw[aE ha]at hm;simp only[bW,cI]at hm;obtain⟨y,hy,ty,nI,hm⟩:=hm;have uO:=du hy;by_cases Nk:y=j
    ·rw[aF Nk]at hm;cases hm
    rw[aE Nk]at hm
    cases hm;obtain rfl:c=y:=by rw[hc,uO]
    have Hy:((y:Int)== -1)=false:=sX;have hyl:y<S.aw.aS.length:=cA nI;obtain⟨t0,t1,t2⟩:=VJ.out y ty nI;have fy:=UC.out (y*3+1);have Ls:y*3+1≠j*3+1:=oX;have aw2:y*3+1≠j*3+2:=oX;have aw3:y*3+1≠j*3:=oX;rw[uO];have A1:=HR.out.vK VI {pX:=kk,behind:= -1,ahead:=y};have A2:=A1.thing (q:=1) (j:=y) (x:=ty) (rL nI (fun e=>Nk e.symm)) {ty with behind:=j} oX (v:=I j) rfl;have A3:=A2.line (q:=1) (j:=kk) (x:=l) J5 {l with last:=j} oX (v:=I j) rfl;have A4:=ag (A3.line (q:=2) (j:=kk) (x:={l with last:=j}) (lE J5) {l with last:=j,count:=l.count+1} oX (v:=I (l.count+1)) rfl);clear ha hc A1 A2 A3 nI hy uO;go_enter func103,ntmps103;go_wp2;go_region;go_wp2;go_region;go_wp2;go_ret;exact⟨rfl,(A4.out.eq bo2).drew.drew⟩
  ·have h1:x<0∨(0≤x∧(S.aw.aS.length:Int)≤x):=by omega
   rw[iN hx]at hm;simp only[eR,hl]at hm
   cases hm;clear R hk hx hl;go_enter func103,ntmps103;rcases h1 with h1|⟨h0,h1⟩
   all_goals
    exact aX3
 ·have h1:k<0∨(0≤k∧(S.aw.bM.length:Int)≤k):=by omega
  rw[iN hk]at hm;simp only at hm
  cases hm;clear R hk;go_enter func103,ntmps103;rcases h1 with h1|⟨h0,h1⟩
  ·exact aX3
  ·have hd:decide (k<(S.aw.bM.length:Int))=false:=by simpa using h1
   exact aX3
end
end Go.Proofs.YtadifmnmfnihdaaGreat
