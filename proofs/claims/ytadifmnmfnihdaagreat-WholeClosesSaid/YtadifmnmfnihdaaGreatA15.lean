import Derived.Test.YtadifmnmfnihdaaGreatA09
set_option linter.all false
set_option maxRecDepth 100000
set_option maxHeartbeats 40000000
namespace Go.Proofs.YtadifmnmfnihdaaGreat
open Go.RowKit Mach Go.Proofs.Tryz
section
variable{af:Nat}{F:Fx}{w w0 w':World}{m m0 m':Mem}{S S':Wd}{L:List (Nat×Obj)}
theorem Ka{n:Int}:kJ n=true↔ -1000000000≤n∧n≤1000000000:=by simp[kJ]
theorem lM{n:Int}(h:¬kJ n=false): -1000000000≤n∧n≤1000000000:=Ka.1 bj3
theorem Il(A:At af F m0 w0 m w S)(l who:Int):Calls prog 169 #[.pointer (some ⟨F.dY,0,none⟩),I l,I who] w (eL (.bool (ek S.aq l who).2) fun w'=>At af F m0 w0 m w' {S with aq:=(ek S.aq l who).1}):=
 (EY A.bj l who).mono fun e w' ⟨h1,h2⟩=>⟨h1,A.cont h2⟩
theorem VS{x:List Int}{l who:Int}(h:(ek x l who).2=false):(ek x l who).1=x:=by
 unfold ek at h ⊢;split
 ·rename_i hc;rw[aF hc]at h;simp at h
 ·rfl
section
variable(R:bz af F w m S)(g:Nat)(p:Int)(x:bI)(hx:S.gs[g]?=some x)(k:Nat)(hk:x.k=k)(l:Int)(hl:x.aq[k]?=some l)(VT:eX l)
include R g p x hx k hk l hl VT
theorem E6(hf:(ek S.aq (l-1) g).2=false):Calls prog 112 #[bR F,I g,I p] w (ee fun w'=>At af F m w m w' S):=by
 obtain⟨b,hb,hd,hc⟩:=R.CU hx hl;have eM:=cA hx;have vA:k<x.aq.length:=cA hl;have c3:=R.eu;have c7:=R.pC;obtain⟨g2,xV⟩:=R.ps hx 2 _ rfl;have g21:=R.g hx 21 _ rfl;obtain⟨g24,E5⟩:=R.ps hx 24 _ rfl;obtain⟨aU,cm,aY,aZ⟩:=R.pB;rw[hd]at g21;rw[hk]at g24;have HA:=ag (At.refl R);have HF:=ag hf;have HN:=ag (VS hf);clear R hx hl hb hd hk hf;unfold bR;go_enter func112,ntmps112;go_wp2_with fail
 refine wp_region_still_tail 16 kX kX ?_;change wpStill _ _ w.drew (fun a=>wpList _ _ _ _ a w.drew) _ _;simp only[sS,aW1,sU,rC];repeat still_step
 refine wpStill_nil ?_;go_wp2_with (go_at_call 169;refine(Il HA.out.aI (l-1) g).mono ?_;rintro e wN ⟨he,A0⟩;rw[HF.out]at he;subst he;rw[HN.out]at A0;have HB:=ag A0;clear A0);refine bodyPost_ret (results_none rfl _ _ _) rfl ?_;exact⟨rfl,HB⟩
theorem CV(hf:(ek S.aq (l-1) g).2=true)(jA:(k:Int)≤1000000000)(ls:List Int)(VU:ls=(ek S.aq (l-1) g).1):Calls prog 112 #[bR F,I g,I p] w (ee fun w'=>At af F m w m w' (({S with aq:=ls}:Wd).ay g (if(k:Int)+1=x.aq.length then{x with k:=0,ae:=p}else{x with k:=k+1}))):=by
 obtain⟨b,hb,hd,hc⟩:=R.CU hx hl;have eM:=cA hx;have vA:k<x.aq.length:=cA hl;have c3:=R.eu;have c7:=R.pC;obtain⟨g2,xV⟩:=R.ps hx 2 _ rfl;have g21:=R.g hx 21 _ rfl;obtain⟨g24,E5⟩:=R.ps hx 24 _ rfl;obtain⟨aU,cm,aY,aZ⟩:=R.pB;rw[hd]at g21;rw[hk]at g24;have HA:=ag (At.refl R);have HF:=ag hf;have HL:=ag VU;have HX:Hid (({S with aq:=ls}:Wd).gs[g]?=some x):=hx;have HD:=ag hd;have HK:=ag hk;by_cases he:(k:Int)+1=x.aq.length
 ·rw[aF he];obtain⟨n,hn⟩:=dC (x.aq.length);have HN:=ag hn;rw[←hn]at g21 he vA;have Hy:((k:Int)+1==(n:Int))=true:=by simpa using he
  clear R hx hl hb hd hk hf VU he hn;unfold bR;go_enter func112,ntmps112;go_wp2_with fail
  refine wp_region_still_tail 16 kX kX ?_;change wpStill _ _ w.drew (fun a=>wpList _ _ _ _ a w.drew) _ _;simp only[sS,aW1,sU,rC];repeat still_step
  refine wpStill_nil ?_;go_wp2_with (go_at_call 169;refine(Il HA.out.aI (l-1) g).mono ?_;rintro e wN ⟨he,A0⟩;rw[HF.out]at he;subst he;rw[←HL.out]at A0;have RN:=A0.bj;have p2:=RN.g HX 2 _ rfl;have wW:=RN.frozen RN.aB.gs (g*25+2);have p21:=RN.g HX 21 _ rfl;have AJ:=RN.g HX 24 _ rfl;have AL:=RN.frozen RN.aB.gs (g*25+24);have Oj:x.k=k:=HK.out;rw[Oj]at AJ;rw[HD.out,←HN.out]at p21;have HB:=ag A0;clear A0 RN Oj);go_quiet (fail);go_wp2;go_end0;have B1:=HB.out.g HX {x with k:=k+1} (q:=24) (v:=I (k+1));have B2:=B1.g (az HX) {x with k:=0} (q:=24) (v:=I 0);rw[aA]at B2;have B3:=B2.g (az HX) {x with k:=0,ae:=p} (q:=2) (v:=I p);rw[aA]at B3;exact⟨rfl,B3.aI⟩
 ·rw[aE he];obtain⟨n,hn⟩:=dC (x.aq.length);have HN:=ag hn;rw[←hn]at g21 he vA;have Hy:((k:Int)+1==(n:Int))=false:=by simpa using he
  clear R hx hl hb hd hk hf VU he hn;unfold bR;go_enter func112,ntmps112;go_wp2_with fail
  refine wp_region_still_tail 16 kX kX ?_;change wpStill _ _ w.drew (fun a=>wpList _ _ _ _ a w.drew) _ _;simp only[sS,aW1,sU,rC];repeat still_step
  refine wpStill_nil ?_;go_wp2_with (go_at_call 169;refine(Il HA.out.aI (l-1) g).mono ?_;rintro e wN ⟨he,A0⟩;rw[HF.out]at he;subst he;rw[←HL.out]at A0;have RN:=A0.bj;have p2:=RN.g HX 2 _ rfl;have wW:=RN.frozen RN.aB.gs (g*25+2);have p21:=RN.g HX 21 _ rfl;have AJ:=RN.g HX 24 _ rfl;have AL:=RN.frozen RN.aB.gs (g*25+24);have Oj:x.k=k:=HK.out;rw[Oj]at AJ;rw[HD.out,←HN.out]at p21;have HB:=ag A0;clear A0 RN Oj);go_quiet (fail);go_wp2;go_end0;have B1:=HB.out.g HX {x with k:=k+1} (q:=24) (v:=I (k+1));exact⟨rfl,B1.aI⟩
end
theorem sm{g:Nat}{S':Wd}{fin:Bool}(hm:Ys S g=some (S',fin)):∃(x:bI) (j:Nat) (l:Int),S.gs[g]?=some x∧x.k=j+1∧(j:Int)≤1000000000∧x.aq[j]?=some l∧ -1000000000≤l∧l≤1000000000∧S'=(free S (l-1) g).ay g {x with k:=j}∧fin=decide (j=0):=by
 unfold Ys at hm;simp only[bW,cI]at hm;obtain⟨x,hx,hm⟩:=hm;by_cases h1:kJ x.k=false
 ·rw[aF h1]at hm;cases hm
 rw[aE h1]at hm;simp only[cI]at hm;obtain⟨l,hl,hm⟩:=hm;by_cases h2:kJ l=false
 ·rw[aF h2]at hm;cases hm
 rw[aE h2]at hm
 cases hm;have h1:=lM h1;have h2:=lM h2;obtain⟨j,hj,vy,hjv⟩:=mO hl;have hk:x.k=j+1:=oX
 refine⟨x,j,l,hx,hk,oX,hjv,h2.1,h2.2,by rw[hj],?_⟩;rw[hj];simp
theorem xD(R:bz af F w m S)(g:Nat)(S':Wd)(fin:Bool)(hm:Ys S g=some (S',fin)):Calls prog 121 #[bR F,I g] w (eL (.bool fin) fun w'=>At af F m w m w' S'):=by
 obtain⟨x,j,l,hx,hk,hj9,hl,El,pJ,rfl,rfl⟩:=sm hm;have eM:=cA hx;have c3:=R.eu;obtain⟨g24,E5⟩:=R.ps hx 24 _ rfl;obtain⟨aU,cm,aY,aZ⟩:=R.pB;rw[hk]at g24;have A1:=(At.refl R).g hx {x with k:=j} (q:=24) (v:=I j);have HA:=ag A1;have HG:Hid ((S.ay g {x with k:=j}).gs[g]?=some {x with k:=j}):=az hx;have HL:=ag hl;have vy:j<x.aq.length:=cA hl;have hs:IntKind.i64.wrap ((j:Int)+1-1)=(j:Int):=bv4
 clear R hx hm A1 hk hl;unfold bR;go_enter func121,ntmps121;go_wp2_with fail
 obtain⟨w1,jk,A1⟩:∃w1,w1=_∧At af F m w m w1 _:=⟨_,rfl,HA⟩;rw[←jk];have R1:=A1.bj;obtain⟨b,hb,hd,hc⟩:=R1.CU HG HL;have d3:=R1.eu;have d7:=R1.pC;have k21:=R1.g HG 21 _ rfl;have k24:=R1.g HG 24 _ rfl;have aA7:=R1.frozen R1.aB.gs (g*25+24);rw[show(S.ay g {x with k:=(j:Int)}).gs.length=S.gs.length by simp[Wd.ay]]at d3;rw[hd]at k21;have HB:=ag A1;clear A1 jk R1 hb hd c3 g24 E5;refine wp_region_still_tail 16 kX kX ?_;change wpStill _ _ w1.drew (fun a=>wpList _ _ _ _ a w1.drew) _ _;simp only[sS,aW1,sU,rC];repeat still_step
 refine wpStill_nil ?_;go_wp2_with (go_at_call 156;refine(C9 (S:=S.ay g {x with k:=(j:Int)}) HB.out.aI (l-1) g).mono ?_;rintro e wN ⟨⟨bb,rfl⟩,A2⟩;have R2:=A2.bj;have AJ:=R2.g (S:=free (S.ay g {x with k:=(j:Int)}) (l-1) g) HG 24 _ rfl;have HC:=ag A2;clear A2 R2);go_ret;refine⟨?_,HC⟩;simp
end
structure Reads(w:World)(v:Value)(xs:List Int):Prop where
 shape:∃a c,v=.slice a xs.length c
 cell:∀j x,xs[j]?=some x→∃b c,v=.slice (some ⟨b,0,none⟩) xs.length c∧w.cell? ⟨b,j,none⟩=some (I x)
theorem IN(s:Int)(w:World):Calls prog 178 #[I s] w (eL (.bool (s != -1)) fun w'=>w=w'):=by
 go_enter func178,ntmps178;exact aW5
section
variable(a:Option Addr)(c n:Nat)(xs:List Int)(hn:n=xs.length)(RH:n≤1000000)(w:World)(hr:Reads w (.slice a n c) xs)
include a c n xs hn RH w hr
theorem IP:Calls prog 73 #[.slice a n c,.func (.func 178) #[] #[]] w fun e w'=>(∃r:Int,e=.returned (I r)∧(0≤r↔xs.any (fun s=>s != -1)=true))∧w=w':=by
 have HR:=ag hr;have HN:=ag hn;have HI:=ag (fun s w=>IN s w);clear hr hn;go_enter func73,ntmps73;go_wp2;go_loopw [4,5,8] (fun r v i wr=>∃k:Nat,i=.int .i64 k∧k≤n∧Hid (∀j,j<k→xs[j]?=some (-1))∧wr=w) (fun r v i _=>n-(intOf i).toNat)
 case atStart=>exact⟨0,rfl,oX,fun j hj=>oX,rfl⟩
 case round=>
  obtain⟨k,rfl,hk,HP,rfl⟩:=hrel;by_cases dD:k<n
  ·obtain⟨x,hx⟩:∃x,xs[k]?=some x:=⟨_,fv bn0⟩;obtain⟨b,cc,hb,hc⟩:=HR.out.cell k x hx;simp only[Value.slice.injEq]at hb;obtain⟨rfl,Ww,rfl⟩:=hb;clear Ww;have HX:=ag hx;by_cases h1:x= -1
   ·have gq:(x != -1)=false:=(by simp[h1]);rw[h1]at hc HX;clear hx h1 gq;go_wp2_with (go_at_call 178;refine(HI _ _).mono ?_;rintro e w2 ⟨rfl,rfl⟩);go_roundw
    case rel=>
     refine⟨k+1,sX,oX,fun j hj=>?_,trivial⟩;rcases Nat.lt_or_ge j k with h|h
     ·exact HP j h
     ·obtain rfl:j=k:=by omega
      exact HX
    case measure=>simp[intOf];omega
   ·have gq:(x != -1)=true:=br9;have H1:=ag gq;clear hx h1 gq;go_wp2_with (go_at_call 178;refine(HI _ _).mono ?_;rintro e w2 ⟨rfl,rfl⟩;rw[H1.out]);go_ret;refine⟨⟨k,rfl,?_⟩,rfl⟩;constructor
    ·intro _;rw[List.any_eq_true];exact⟨x,lf HX,H1⟩
    ·intro _;omega
  ·obtain rfl:k=n:=by omega
   go_wp2;go_ret;refine⟨⟨-1,rfl,?_⟩,rfl⟩;constructor
   ·intro h;omega
   ·intro h;exfalso;rw[List.any_eq_true]at h;obtain⟨x,hx,h⟩:=h;obtain⟨j,hj⟩:=List.getElem?_of_mem hx;have vy:=cA hj;rw[HP.out j (by rw[HN.out];exact vy)]at hj
    cases hj;simp at h
theorem tr:Calls prog 40 #[.slice a n c,.func (.func 178) #[] #[]] w fun e w'=>e=.returned (.bool (xs.any (fun s=>s != -1)))∧w=w':=by
 have HI:=ag (IP a c n xs hn RH w hr);obtain⟨r,C5⟩:=dC (xs.any (fun s=>s != -1));rw[←C5]at HI ⊢;clear hr hn C5;go_enter func40,ntmps40;go_wp2_with (go_at_call 73;refine HI.out.mono ?_;rintro e w2 ⟨⟨q,rfl,hq⟩,rfl⟩;have HQ:=ag hq;clear hq);go_ret;refine⟨?_,rfl⟩;have h:=HQ.out
 cases r with
 |true=>simp at h;simp[h]
 |false=>simp at h;simp;omega
end
section
variable{af:Nat}{F:Fx}{w w0 w':World}{m m0 m':Mem}{S S':Wd}{L:List (Nat×Obj)}
theorem bz.FP(R:bz af F w m S){g:Nat}{x:bI}(hx:S.gs[g]?=some x):Reads w (m.cU (.bA g) x.bA.length) x.bA:=by
 refine⟨R.shape bm7,fun j v hv=>?_⟩;obtain⟨b,hb,hd,hc⟩:=R.ti hx hv;exact⟨b,_,hd,hc⟩
section
variable(A:At af F m0 w0 m w S){g:Nat}
include A
theorem jb{S':Wd}{fin:Bool}(hm:Ys S g=some (S',fin)):Calls prog 121 #[bR F,I g] w (eL (.bool fin) fun w'=>At af F m0 w0 m w' S'):=
 (xD A.bj g S' fin hm).mono fun e w' ⟨h1,h2⟩=>⟨h1,A.cont h2⟩
theorem xe{x:bI}(hx:S.gs[g]?=some x)(p:Int):Calls prog 175 #[bR F,I g,I p] w (ee fun w'=>At af F m0 w0 m w' (S.ay g (eZ x p))):=
 (tj A.bj g x hx p).mono fun e w' ⟨h1,h2⟩=>⟨h1,A.cont h2⟩
theorem Dz{x:bI}(hx:S.gs[g]?=some x):Calls prog 179 #[.pointer (some ⟨F.al,0,none⟩),I g] w fun e w'=>e=.returned (I (hJ x))∧w=w':=LG A.bj g x hx
end
theorem zf(R:bz af F w m S)(g:Nat)(S1:Wd)(hm:Ys S g=some (S1,false)):Calls prog 118 #[bR F,I g] w (ee fun w'=>At af F m w m w' S1):=by
 have HR:=ag (At.refl R);have HM:=ag hm;clear R hm;unfold bR;go_enter func118,ntmps118;go_wp2_with (go_at_call 121;refine(jb HR.out HM).mono ?_;rintro e w1 ⟨rfl,A1⟩;have HA:=ag A1;clear A1);refine bodyPost_ret (results_none rfl _ _ _) rfl ?_;exact⟨rfl,HA⟩
section
variable(R:bz af F w m S)(g:Nat)(S1:Wd)(hm:Ys S g=some (S1,true))(x:bI)(hx:S1.gs[g]?=some x)
include R g S1 hm x hx
theorem zg(h0:x.res.aJ=0):Calls prog 118 #[bR F,I g] w (ee fun w'=>At af F m w m w' (S1.ay g {x with ae:=13})):=by
 have HR:=ag (At.refl R);have HM:=ag hm;have HX:=ag hx;have H0:=ag h0;have eM:g<S1.gs.length:=cA hx;clear R hm hx h0;unfold bR;go_enter func118,ntmps118;go_wp2_with (go_at_call 121;refine(jb HR.out HM).mono ?_;rintro e w1 ⟨rfl,A1⟩;have R1:=A1.bj;have c3:=R1.eu;have p2:=R1.g HX 2 _ rfl;have wW:=R1.frozen R1.aB.gs (g*25+2);have Ip:=R1.g HX 15 _ rfl;rw[H0.out]at Ip;have HA:=ag A1;clear A1 R1);go_end0;exact⟨rfl,HA.out.g HX {x with ae:=13} (q:=2) (v:=I 13)⟩
theorem xE(h0:x.res.aJ≠0)(hl:x.bA.length≤1000000)(ha:x.bA.any (fun s=>s != -1)=true):Calls prog 118 #[bR F,I g] w (ee fun w'=>At af F m w m w' (S1.ay g {x with ae:=34})):=by
 have HR:=ag (At.refl R);have HM:=ag hm;have HX:=ag hx;have hc:(x.res.aJ==0)=false:=by simpa using h0
 have HV:=ag ha;have eM:g<S1.gs.length:=cA hx;obtain⟨n,hn⟩:=dC (x.bA.length);have HN:=ag hn;rw[←hn]at hl;have HL:=ag hl;clear R hm hx h0 ha hn hl;unfold bR;go_enter func118,ntmps118;go_wp2_with (first|(go_at_call 121;refine(jb HR.out HM).mono ?_;rintro e w1 ⟨rfl,A1⟩;have R1:=A1.bj;have c3:=R1.eu;have p2:=R1.g HX 2 _ rfl;have wW:=R1.frozen R1.aB.gs (g*25+2);have Ip:=R1.g HX 15 _ rfl;have Es:=R1.g HX 22 _ rfl;have jF:=R1.FP HX;obtain⟨aa,cc,Wx⟩:=jF.shape;rw[←HN.out]at Es Wx jF;rw[Wx]at Es jF;obtain⟨CZ,HA⟩:=dA jF A1;clear A1 R1 jF Wx)|(go_at_call 40;refine(tr aa cc n x.bA HN HL _ CZ).mono ?_;rintro e w2 ⟨rfl,rfl⟩;rw[HV.out]));go_end0;exact⟨rfl,HA.out.g HX {x with ae:=34} (q:=2) (v:=I 34)⟩
theorem zh(h0:x.res.aJ≠0)(hl:x.bA.length≤1000000)(ha:x.bA.any (fun s=>s != -1)=false):Calls prog 118 #[bR F,I g] w (ee fun w'=>At af F m w m w' (S1.ay g {x with ae:=hJ x})):=by
 have HR:=ag (At.refl R);have HM:=ag hm;have HX:=ag hx;have hc:(x.res.aJ==0)=false:=by simpa using h0
 have HV:=ag ha;have eM:g<S1.gs.length:=cA hx;obtain⟨n,hn⟩:=dC (x.bA.length);have HN:=ag hn;rw[←hn]at hl;have HL:=ag hl;clear R hm hx h0 ha hn hl;unfold bR;go_enter func118,ntmps118;go_wp2_with (first|(go_at_call 121;refine(jb HR.out HM).mono ?_;rintro e w1 ⟨rfl,A1⟩;have R1:=A1.bj;have c3:=R1.eu;have p2:=R1.g HX 2 _ rfl;have wW:=R1.frozen R1.aB.gs (g*25+2);have Ip:=R1.g HX 15 _ rfl;have Es:=R1.g HX 22 _ rfl;have jF:=R1.FP HX;obtain⟨aa,cc,Wx⟩:=jF.shape;rw[←HN.out]at Es Wx jF;rw[Wx]at Es jF;obtain⟨CZ,HA⟩:=dA jF A1;clear A1 R1 jF Wx)|(go_at_call 40;refine(tr aa cc n x.bA HN HL _ CZ).mono ?_;rintro e w2 ⟨rfl,rfl⟩;rw[HV.out])|(go_at_call 179;refine(Dz HA.out HX).mono ?_;rintro e w2 ⟨rfl,rfl⟩));go_end0;exact⟨rfl,HA.out.g HX {x with ae:=hJ x} (q:=2) (v:=I (hJ x))⟩
end
theorem zi(R:bz af F w m S)(g:Nat)(oo:∀x,S.gs[g]?=some x→x.bA.length≤1000000)(S':Wd)(hm:iH S g=some S'):Calls prog 118 #[.pointer (some ⟨F.al,0,none⟩),I g] w (ee fun w'=>At af F m w m w' S'):=by
 unfold iH at hm;simp only[bW,cI]at hm;obtain⟨⟨S1,fin⟩,h1,hm⟩:=hm
 cases fin with
 |false=>
  simp only[dt,oZ]at hm;subst hm;exact zf R g S1 h1
 |true=>
  simp only[aH6,dF]at hm;unfold fL at hm
  cases hx:S1.gs[g]? with
  |none=>rw[hx]at hm;cases hm
  |some x=>
   rw[hx]at hm
   cases hm;show Calls prog 118 #[.pointer (some ⟨F.al,0,none⟩),I g] w fun e w'=>e=.returned (.tuple #[])∧At af F m w m w' (S1.ay g {x with ae:=fG x})
   have hl:x.bA.length≤1000000:=by
    obtain⟨y,j,l,hy,_,_,_,_,_,he,_⟩:=sm h1;subst he;have h2:((free S (l-1) g).ay g {y with k:=(j:Int)}).gs[g]?=some {y with k:=(j:Int)}:=az (S:=free S (l-1) g) hy;rw[h2]at hx
    cases hx;exact oo y hy
   by_cases h0:x.res.aJ=0
   ·rw[show fG x=13 by unfold fG;rw[aF h0]];exact zg R g S1 h1 x hx h0
   ·cases ha:x.bA.any (fun s=>s != -1) with
    |true=>
     rw[show fG x=34 by unfold fG;rw[aE h0,aF ha]];exact xE R g S1 h1 x hx h0 hl ha
    |false=>
     rw[show fG x=hJ x by unfold fG;rw[aE h0,aE (by simp[ha])]];exact zh R g S1 h1 x hx h0 hl ha
theorem u3(A:At af F m0 w0 m w S){g:Nat}{x:bI}(hx:S.gs[g]?=some x){h:Int}(hh:dU x=some h):Calls prog 170 #[.pointer (some ⟨F.al,0,none⟩),I g] w fun e w'=>e=.returned (I h)∧∃n,w'=w.drewN n:=vX A.bj g x hx h hh
theorem rm(R:bz af F w m S)(g:Nat)(S':Wd)(hm:eH S g=some S'):Calls prog 114 #[bR F,I g] w (ee fun w'=>At af F m w m w' S'):=by
 unfold eH at hm;simp only[bW,cI]at hm;obtain⟨x,hx,hm⟩:=hm;have eM:=cA hx;have c3:=R.eu;have g2:=R.g hx 2 _ rfl;obtain⟨g14,aq9⟩:=R.ps hx 14 _ rfl;obtain⟨aU,cm,aY,aZ⟩:=R.pB;have HR:=ag (At.refl R);by_cases hp:x.ae=27
 ·rw[aF hp]at hm;simp only[cI]at hm;obtain⟨h,hh,hm⟩:=hm
  cases hm;rw[hp]at g2;have A1:=(At.refl R).g hx {x with fire:=h} (q:=14) (v:=I h)
  have HA:=ag A1;have HX:=ag hx;have HH:=ag hh;clear R hx hh A1 hp;unfold bR;go_enter func114,ntmps114;go_wp2_with fail
  go_region_with (go_at_call 170;refine(u3 HR.out.aI HX HH).mono ?_;rintro e w1 ⟨rfl,n,rfl⟩)
  all_goals
   go_wp2;exact ba9
 ·rw[aE hp]at hm
  cases hm;have hb:(x.ae==27)=false:=by simpa using hp
  clear R hx hp;unfold bR;go_enter func114,ntmps114;go_wp2;go_end0;exact⟨rfl,HR⟩
theorem Ce(R:bz af F w m S)(g:Nat)(x:bI)(hx:S.gs[g]?=some x)(r:nP):Calls prog 173 #[bR F,I g,.agg #[I r.aJ,I r.case,I r.v,B r.ok,I r.n]] w (ee fun w'=>At af F m w m w' (S.ay g (eZ {x with res:=r,point:=S.av,fire:=r.case} 30))):=by
 have eM:=cA hx;have c2:=R.dM;have c3:=R.eu;obtain⟨g12,xC⟩:=R.ps hx 12 _ rfl;obtain⟨g14,aq9⟩:=R.ps hx 14 _ rfl;obtain⟨g15,tT⟩:=R.ps hx 15 _ rfl;obtain⟨g16,tU⟩:=R.ps hx 16 _ rfl;obtain⟨g17,tV⟩:=R.ps hx 17 _ rfl;obtain⟨g18,tW⟩:=R.ps hx 18 _ rfl;obtain⟨g19,tX⟩:=R.ps hx 19 _ rfl;obtain⟨aU,cm,aY,aZ⟩:=R.pB;have A1:=(At.refl R).res hx r;have A2:=A1.g (az hx) {x with res:=r,point:=S.av} (q:=12) (v:=I S.av);rw[aA]at A2;have A3:=A2.g (az hx) {x with res:=r,point:=S.av,fire:=r.case} (q:=14) (v:=I r.case);rw[aA]at A3;have A4:=A3.alloc (.cells #[I r.aJ,I r.case,I r.v,B r.ok,I r.n] 44);have HA:=ag A4;have HX:Hid ((S.ay g {x with res:=r,point:=S.av,fire:=r.case}).gs[g]?=some {x with res:=r,point:=S.av,fire:=r.case}):=az hx;clear R hx A1 A2 A3 A4;unfold bR;go_enter func173,ntmps173;go_wp2_with (go_at_call 175;refine(xe (S:=S.ay g {x with res:=r,point:=S.av,fire:=r.case}) HA.out.aI HX 30).mono ?_;rintro e w1 ⟨rfl,A1⟩;have HB:=ag A1;clear A1);go_end0;exact⟨rfl,HB.out.eq aA⟩
end
theorem Im(x y:Nat)(hx:x<18446744073709551616)(hy:y<18446744073709551616)(w:World):Calls prog 222 #[.int .u64 x,.int .u64 y] w fun e w'=>e=.returned (.tuple #[.int .u64 ((x*y / 18446744073709551616:Nat):Int),.int .u64 ((x*y % 18446744073709551616:Nat):Int)])∧w=w':=by
 obtain⟨bd,bt,bw,hhi⟩:=Lib.mul64_hi x y hx hy;have ba:=Lib.half_mul_le (a:=x / 4294967296) (b:=y / 4294967296) oX oX;have bb:=Lib.half_mul_le (a:=x / 4294967296) (b:=y % 4294967296) oX oX;have bc:=Lib.half_mul_le (a:=x % 4294967296) (b:=y / 4294967296) oX oX;have ba':x / 4294967296*(y / 4294967296)<18446744073709551616:=oX
 have bb':x / 4294967296*(y % 4294967296)<18446744073709551616:=oX
 have bc':x % 4294967296*(y / 4294967296)<18446744073709551616:=oX
 have bh1:x / 4294967296*(y / 4294967296)+(x / 4294967296*(y % 4294967296)+x % 4294967296*(y % 4294967296) / 4294967296) / 4294967296<18446744073709551616:=oX
 have bh:x / 4294967296*(y / 4294967296)+(x / 4294967296*(y % 4294967296)+x % 4294967296*(y % 4294967296) / 4294967296) / 4294967296+((x / 4294967296*(y % 4294967296)+x % 4294967296*(y % 4294967296) / 4294967296) % 4294967296+x % 4294967296*(y / 4294967296)) / 4294967296<18446744073709551616:=oX
 go_enter func222,ntmps222;go_wp2;simp only[Mul64.maskN x hx,Mul64.maskN y hy,Mul64.divN,Mul64.mulN,Mul64.addN,Mul64.wrapN _ bd,Mul64.wrapN _ bb',Mul64.wrapN _ bt,Mul64.maskN _ bt,Mul64.wrapN _ bc',Mul64.wrapN _ bw,Mul64.wrapN _ ba',Mul64.wrapN _ bh1,Mul64.wrapN _ bh,Mul64.wrapM (x*y)];rw[hhi];go_ret2;exact⟨rfl,rfl⟩
theorem Om(n:Nat)(hn:n≤1000)(w:World):Calls prog 217 #[.int .u64 1,.int .u64 n] w (eL (.tuple #[.int .u64 0,.int .u64 n]) fun w'=>w=w'):=by
 have c:=Im 1 n oX oX w;rw[show 1*n / 18446744073709551616=0 by omega,show 1*n % 18446744073709551616=n by omega]at c;have HC:=ag c;clear c;go_enter func217,ntmps217;go_wp2_with (go_at_call 222;refine HC.out.mono ?_;rintro e w' ⟨rfl,rfl⟩);go_ret2;exact⟨rfl,rfl⟩
def Part(B n:Nat)(w:World)(k:Nat)(wr:World):Prop:=wr.heap[B]?=some (.cells (List.replicate k (I (-1))++List.replicate (n-k) (I 0)).toArray 3 (0,0))∧Below w.heap.size w wr
theorem wZ{n k c:Nat}(hc:k+c≤n):splice (List.replicate k (I (-1))++List.replicate (n-k) (I 0)) k (List.replicate c (I (-1)))=List.replicate (k+c) (I (-1))++List.replicate (n-(k+c)) (I 0):=by
 unfold splice;simp only[vE];rw[List.take_append_of_le_length sX,yl sX,List.drop_append,vE];rw[List.drop_of_length_le sX,List.nil_append,show k+c-k=c by omega,List.drop_replicate,show n-k-c=n-(k+c)by omega];rw[←List.append_assoc,List.replicate_append_replicate]
theorem E9(b n:Nat)(xS:1≤n)(hn:n≤1000)(w:World)(hc:w.cell? ⟨b,0,none⟩=some (I (-1))):Calls prog 210 #[.slice (some ⟨b,0,none⟩) 1 1,I n] w (eL (.slice (some ⟨w.heap.size,0,none⟩) n n) fun w'=>w'.heap[w.heap.size]?=some (.cells (List.replicate n (I (-1))).toArray 3 (0,0))∧Below w.heap.size w w'):=by
 obtain⟨i0,hi,fV,gF,gG⟩:=info_parts lC;have HM:=ag (fun w=>Om n hn w);have HC:=ag hc;clear hc;go_enter func210,ntmps210;go_wp2_with (first|(go_at_call 217;refine(HM _).mono ?_;rintro e w1 ⟨rfl,rfl⟩)|(at_make;go_loud (refine wpList_make_full _ rfl _ _ 28 rfl w.heap.size 3 i0 (.int .i64 0) 1 underlying28 hi fV gF _ _ _ _ n rfl rfl rfl rfl bk6 bj4 cG ?_)));intro w1 hown bX;have gq:Below w.heap.size w w1:=(fp _ _).grown bX cG bj7;rw[toList_madeCells_one]at hown;have AA:=ag (rX hown);have Y9:w1.cell? ⟨b,0,none⟩=some (I (-1)):=by rw[gq.cell (p:=⟨b,0,none⟩) (xo w _ HC.out)];exact HC
 have HS:=ag Y9;clear hown bX Y9;go_wp2_with (with_reducible refine wpList_copy_splice rfl (.tmp 31) (.tmp 32) 28 28 rfl 3 underlying28 kX _ _ _ _ _ _ rfl rfl w.heap.size 0 (List.replicate n (.int .i64 0)) 3 AA.out (List.replicate 1 (I (-1))) ?c1 ?c2 ?c3 ?c4 w.heap.size w gq cG ?_)
 case c1=>rw[vE];exact(Nat.min_eq_left xS).symm
 case c2=>
  intro j v hv;match j,hv with
  |0,hv=>simp at hv;subst hv;exact HS
 case c3=>simp;omega
 case c4=>
  intro v hv;simp at hv;subst hv;rfl
 intro w2 HG mz;have HP:Hid (Part w.heap.size n w 1 w2):=by refine⟨?_,mz⟩;have e:splice (List.replicate n (Value.int .i64 0)) 0 [I (-1)]=List.replicate 1 (I (-1))++List.replicate (n-1) (I 0):=wZ (n:=n) (k:=0) (c:=1) oX;have h:=HG.out;rw[e]at h;exact h
 clear HG mz gq AA HS;go_wp2;go_loopw [8] (fun v wr=>∃k:Nat,v=.int .i64 k∧1≤k∧k≤n∧Hid (Part w.heap.size n w k wr)) (fun v _=>n-(intOf v).toNat)
 case atStart=>exact⟨1,rfl,oX,oX,HP⟩
 case round=>
  clear HP;obtain⟨k,rfl,jg,hk,HP⟩:=hrel;by_cases dD:k<n
  ·obtain⟨c,mP⟩:=dC (min k (n-k));have Np:=ag (fun(ops:Array Oper) (o:Oper) (ac:Act) (K:Act→World→Prop) (Q:Exit→Act→World→Prop) (E:Prop)=>step_copy_splice (P:=prog) (ops:=ops) (o:=o) (a:=ac) (w:=wr.drew) (K:=K) (Q:=Q) (E:=E) (d:=.tmp 41) (s:=.tmp 44) (dT:=28) (sT:=28) (elem:=3) (hu:=underlying28) (hsz:=kX) (dp:=some ⟨w.heap.size,k,none⟩) (sp:=some ⟨w.heap.size,0,none⟩) (dLen:=n-k) (dCap:=n-k) (sLen:=k) (sCap:=n) (g:=w.heap.size) (off:=k) (cur:=List.replicate k (I (-1))++List.replicate (n-k) (I 0)) (t:=3) (hg:=HP.out.1) (cs:=List.replicate c (I (-1))) (hn:=by simp[mP]) (hpos:=fun _=>⟨rfl,_,rfl,fun j v hv=>by have hj:=cA hv;simp at hj;have hv2:v=I (-1):=(by rw[uA]at hv;split at hv<;>simp_all);subst hv2;rw[Addr.add_lit];show wr.cell? ⟨w.heap.size,0+j,none⟩=_;rw[cr wr _ _ _ _ _ HP.out.1];rw[List.getElem?_toArray,Ev bi8,uA];simp;omega⟩) (hfit:=bi8) (h1:=by intro v hv;simp at hv;rw[hv.2];rfl) (B:=w.heap.size) (w0:=w) (hb:=HP.out.2.drew) (hBg:=Nat.le_refl _));have hnk:¬n=k:=oX;go_wp2;go_region_law (refine Np _ _ _ _ _ _ rfl rfl (by simp[Act.eval,Act.put,hnk]) bj0 ?_;intro w4 hg4 R8)
   all_goals
    have G6:Hid (Part w.heap.size n w (k+c) w4):=(by refine⟨?_,R8⟩;have h:=hg4.out;rw[wZ oX]at h;exact h);go_wp2;go_roundw
    case rel=>
     refine⟨_,_,_,_,_,_,_,_,_,_,_,_,_,_,⟨k+c,?_,oX,oX,G6⟩,rfl⟩;subst mP;first|rfl|(rw[jX _ oX];simp)|simp
    case measure=>
     have hw:=jX ((k:Int)+((min k (n-k):Nat):Int)) oX;simp only[Act.put,intOf];rw[hw];simp;omega
  ·obtain rfl:k=n:=by omega
   go_wp2;go_ret;have h:=HP.out.1;simp only[Nat.sub_self,List.replicate_zero,List.append_nil]at h;exact⟨rfl,h,HP.out.2⟩
section
variable{af:Nat}{F:Fx}{w w0 w':World}{m m0 m':Mem}{S S':Wd}{L:List (Nat×Obj)}
theorem S9(A:At af F m0 w0 m w S){g:Nat}{x:bI}(hx:S.gs[g]?=some x)(r:nP):Calls prog 173 #[bR F,I g,.agg #[I r.aJ,I r.case,I r.v,B r.ok,I r.n]] w (ee fun w'=>At af F m0 w0 m w' (S.ay g (eZ {x with res:=r,point:=S.av,fire:=r.case} 30))):=
 (Ce A.bj g x hx r).mono fun e w' ⟨h1,h2⟩=>⟨h1,A.cont h2⟩
theorem zj{w w':World}(h:Below w.heap.size w w')(r:Option Nat):w.grownBy w' r:=⟨h.os,h.tape,h.output,h.size,fun b hb _=>h.block b hb⟩
theorem DA{w:World}{b n:Nat}{xs:List Value}(hl:xs.length=n)(hn:n≤1000000){af:Nat}(hb:af≤b)(h:w.heap[b]?=some (.cells xs.toArray 3 (0,0))):w.ownsRow af 3 1 (.slice (some ⟨b,0,none⟩) n n) n xs:=by
 refine⟨oX,.inr ⟨b,n,xs.toArray,rfl,hb,h,Nat.le_refl _,bj4,by simp[hl],?_⟩⟩;exact yl (by simp[hl])
theorem Md{W:World}{b:Nat}(hb:W.heap.size=b)(v:Value)(t:TypeId):(W.alloc (.cells #[v] t)).cell? ⟨b,0,none⟩=some v:=by
 subst hb;rw[cr _ _ _ _ _ _ (dP W _)];rfl
theorem At.IQ{W W' w2:World}(Ta:Below W.heap.size W w2)(A:At af F m0 w0 m W' S)(h1:W.heap=W'.heap)(h2:W.os=W'.os)(h3:W.tape=W'.tape)(h4:W.output=W'.output):At af F m0 w0 m w2 S:=(A.aI h1 h2 h3 h4).heap Ta
theorem At.Wy{W W' w2:World}{nb:Nat}(Ta:Below W.heap.size W w2)(A:At af F m0 w0 m W' S)(h1:W.heap=W'.heap)(h2:W.os=W'.os)(h3:W.tape=W'.tape)(h4:W.output=W'.output)(EI:W.heap.size≤nb){j:Nat}{x:bI}(hx:S.gs[j]?=some x){l:List Int}(hl:l.length≤1000000)(mA:w2.heap[nb]?=some (.cells (l.map I).toArray 3 (0,0))):At af F m0 w0 (m.eG (.bA j) (some nb) l.length) (w2.setCell ⟨F.gs,j*25+22,none⟩ (.slice (some ⟨nb,0,none⟩) l.length l.length)) (S.ay j {x with bA:=l}):=by
 have A2:=A.aI h1 h2 h3 h4;exact A2.Vp hx (zj Ta _) (DA sX hl (jm A2.bj.eS EI) mA) (.inr EI)
section
variable(R:bz af F w m S)(g:Nat)(x:bI)(hx:S.gs[g]?=some x)(k:Int)(hk:x.k=k)(oz:eX k)(o:cu)(ca:Option Addr)(cn cc:Nat)
include R g x hx k hk oz o ca cn cc
theorem AX(dD:k+1<x.aH.length):Calls prog 174 #[bR F,I g,.agg #[I o.ai,I o.ch,I o.n,I o.v,.slice ca cn cc,B o.dG]] w (ee fun w'=>At af F m w m w' (S.ay g {x with k:=k+1})):=by
 have eM:=cA hx;have c3:=R.eu;have g20:=R.g hx 20 _ rfl;obtain⟨g24,E5⟩:=R.ps hx 24 _ rfl;obtain⟨aU,cm,aY,aZ⟩:=R.pB;obtain⟨a,c,hd⟩:=R.shape (r:=.aH g) (n:=x.aH.length) bm7;rw[hd]at g20;rw[hk]at g24;obtain⟨n,hn⟩:=dC (x.aH.length);rw[←hn]at g20 dD;have hb:decide (k+1<(n:Int))=true:=by simpa using dD
 have A1:=(At.refl R).g hx {x with k:=k+1} (q:=24) (v:=I (k+1));have HA:=ag (A1.alloc (.cells #[I o.ai,I o.ch,I o.n,I o.v,.slice ca cn cc,B o.dG] 49));clear R hx hk hd hn dD A1;unfold bR;go_enter func174,ntmps174;go_wp2_with fail
 go_quiet (fail);go_wp2;exact aX7
theorem AY(dD:¬k+1<x.aH.length)(he:o.dG=true):Calls prog 174 #[bR F,I g,.agg #[I o.ai,I o.ch,I o.n,I o.v,.slice ca cn cc,B o.dG]] w (ee fun w'=>At af F m w m w' ((S.ay g {x with k:=k+1}).ay g (eZ {x with k:=k+1,res:={aJ:=2,case:= -1},point:=S.av,fire:= -1} 30))):=by
 have eM:=cA hx;have c3:=R.eu;have g20:=R.g hx 20 _ rfl;obtain⟨g24,E5⟩:=R.ps hx 24 _ rfl;obtain⟨aU,cm,aY,aZ⟩:=R.pB;obtain⟨a,c,hd⟩:=R.shape (r:=.aH g) (n:=x.aH.length) bm7;rw[hd]at g20;rw[hk]at g24;obtain⟨n,hn⟩:=dC (x.aH.length);rw[←hn]at g20 dD;have hb:decide (k+1<(n:Int))=false:=by simpa using dD
 have A1:=(At.refl R).g hx {x with k:=k+1} (q:=24) (v:=I (k+1));rw[he];have HA:=ag (A1.alloc (.cells #[I o.ai,I o.ch,I o.n,I o.v,.slice ca cn cc,B true] 49));have HX:Hid ((S.ay g {x with k:=k+1}).gs[g]?=some {x with k:=k+1}):=az hx;clear R hx hk hd hn dD A1 he;unfold bR;go_enter func174,ntmps174;go_wp2_with fail
 go_quiet (fail);go_wp2_with (go_at_call 173;refine(S9 (S:=S.ay g {x with k:=k+1}) HA.out.aI HX {aJ:=2,case:= -1}).mono ?_;rintro e w1 ⟨rfl,A1⟩;have HB:=ag A1;clear A1);refine bodyPost_ret (results_none rfl _ _ _) rfl ?_;exact⟨rfl,HB⟩
theorem AZ(dD:¬k+1<x.aH.length)(he:o.dG=false)(ar0:1≤cn)(RG:cn≤1000):Calls prog 174 #[bR F,I g,.agg #[I o.ai,I o.ch,I o.n,I o.v,.slice ca cn cc,B o.dG]] w (ee fun w'=>To af F m w (S.ay g {x with bA:=List.replicate cn (-1),k:=0,ae:=28}) w'):=by
 have eM:=cA hx;have c3:=R.eu;have g20:=R.g hx 20 _ rfl;obtain⟨g24,E5⟩:=R.ps hx 24 _ rfl;obtain⟨aU,cm,aY,aZ⟩:=R.pB;obtain⟨a,c,hd⟩:=R.shape (r:=.aH g) (n:=x.aH.length) bm7;rw[hd]at g20;rw[hk]at g24;obtain⟨n,hn⟩:=dC (x.aH.length);rw[←hn]at g20 dD;have hb:decide (k+1<(n:Int))=false:=by simpa using dD
 have A1:=(At.refl R).g hx {x with k:=k+1} (q:=24) (v:=I (k+1));rw[he];have HA:=ag ((A1.alloc (.cells #[I o.ai,I o.ch,I o.n,I o.v,.slice ca cn cc,B false] 49)).alloc (.cells #[I (-1)] 3));have HX:Hid ((S.ay g {x with k:=k+1}).gs[g]?=some {x with k:=k+1}):=az hx;have Z3:=ag hx;have HRP:=ag (fun b w h=>(E9 b cn ar0 RG w h).mono (fun e w' h=>(⟨w.heap.size,Nat.le_refl _,h⟩:∃nb,w.heap.size≤nb∧e=.returned (.slice (some ⟨nb,0,none⟩) cn cn)∧w'.heap[nb]?=some (.cells (List.replicate cn (I (-1))).toArray 3 (0,0))∧Below w.heap.size w w')));clear R hx hk hd hn dD A1 he;unfold bR;go_enter func174,ntmps174;go_wp2_with fail
 go_quiet (fail);go_wp2_with fail
 refine(HRP _ _ (Md sX _ _)).mono ?_;rintro e w2 ⟨nb,EI,rfl,mA,Ta⟩;have A2:=At.IQ Ta HA rfl rfl rfl rfl;have R2:=A2.bj;have p2:=R2.g HX 2 _ rfl;have wW:=R2.frozen R2.aB.gs (g*25+2);have Es:=R2.g HX 22 _ rfl;have Z4:=R2.frozen R2.aB.gs (g*25+22);have AJ:=R2.g HX 24 _ rfl;have AL:=R2.frozen R2.aB.gs (g*25+24);have hl:(List.replicate cn (-1:Int)).length=cn:=sX
 have B1:=At.Wy (l:=List.replicate cn (-1)) Ta HA rfl rfl rfl rfl EI HX bi8 (by rw[List.map_replicate];exact mA);rw[hl,aA]at B1;have B2:=B1.g (az (x:=x) Z3) {x with bA:=List.replicate cn (-1),k:=0} (q:=24) (v:=I 0);rw[aA]at B2;have B3:=B2.g (az (x:=x) Z3) {x with bA:=List.replicate cn (-1),k:=0,ae:=28} (q:=2) (v:=I 28);rw[aA]at B3;have HB:=ag B3;clear B1 B2 B3 A2 R2 hl mA Ta EI;go_wp2;go_end0;exact⟨rfl,_,HB⟩
end
theorem IH(R:bz af F w m S)(aG:Good S)(ch:Int)(bO:eX ch)(s:Nat)(S2:Wd)(v:Int)(hm:ik S ch s=some (S2,v)):Calls prog 165 #[bR F,I ch,I s] w (eL (I v) fun w'=>At af F m w m w' S2):=by
 have Ap:=ag (At.refl R);have HM:=ag (gJ R ch);unfold ik at hm
 cases gv:cZ S ch with
 |false=>
  rw[aF gv]at hm
  cases hm;rw[gv]at HM;clear R aG gv;unfold bR;go_enter func165,ntmps165;go_wp2_with (go_at_call 138;refine HM.out.mono ?_;rintro e w1 ⟨rfl,rfl⟩);go_ret;exact⟨rfl,Ap⟩
 |true=>
  rw[aE (by simp[gv])]at hm;rw[gv]at HM;simp only[bW,cI]at hm;obtain⟨sd,RY,⟨c,r⟩,tS,hm⟩:=hm;obtain⟨hc,hr⟩:=kx tS;subst hc;clear tS;have mj:s<S.ah.length:=cA RY;have c9:=R.ed;have Ut:decide ((s:Int)<0)=false:=sX
  have Rp:decide ((S.ah.length:Int)≤(s:Int))=false:=bi8
  have s5:=R.s RY 5 _ rfl;obtain⟨rr,rb,pL,fA,c5,cp⟩:=R.iJ hr;obtain⟨Hw,gr,a,cc',hh,k0,k1,k2,_⟩:=R.eU hr;rw[fA]at gr
  cases gr;have eK:=aG.au c r hr;have gm:c<S.au.length:=cA hr;have hs:IntKind.i64.wrap ((c:Int)+1-1)=(c:Int):=bv4
  obtain⟨HR,uv,lP⟩:=ij hr fA eK;obtain⟨n,hn⟩:=dC (r.places.length);unfold Ring.room at hm;rw[←hn]at k0 hm;by_cases hp:(n:Int)=0
  ·rw[aF hp]at hm
   cases hm;obtain rfl:n=0:=oX
   clear R aG gv RY hr pL fA eK hh hn hp;unfold bR;go_enter func165,ntmps165;go_wp2_with (first|(go_at_call 138;refine HM.out.mono ?_;rintro e w1 ⟨rfl,rfl⟩)|(go_at_call 53;go_in));go_ret;exact⟨rfl,Ap⟩
  ·rw[aE hp]at hm;have vT:((n:Int)==0)=false:=by simpa using hp
   obtain⟨pv,pok,Pt⟩:∃pv pok,(r.pass sd.v).2=(pv,pok):=⟨_,_,rfl⟩;have II:(r.pass sd.v).2.1=pv:=(by rw[Pt]);have IJ:(r.pass sd.v).2.2=pok:=(by rw[Pt]);rw[II,IJ]at hm;obtain⟨Nq,En⟩:=dA II IJ;clear Pt II IJ
   cases pok with
   |true=>
    exact aX8
   |false=>
    exact aX8
end
end Go.Proofs.YtadifmnmfnihdaaGreat
