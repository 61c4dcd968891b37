import Derived.StillTailTactics
import Derived.Deep.RegionWith
import Derived.Test.YtadifmnmfnihdaaGreatA00
set_option linter.all false
set_option maxRecDepth 100000
set_option maxHeartbeats 40000000
namespace Go.Proofs.YtadifmnmfnihdaaGreat
open Go.RowKit Mach Go.Proofs.Tryz
section
variable{af:Nat}{F:Fx}{w w0:World}{m m0:Mem}{S:Wd}
theorem yE(R:bz af F w m S)(g:Nat)(x:bI)(hx:S.gs[g]?=some x):Calls prog 84 #[bR F,I g] w (ee (To af F m w (S.ay g (bu x)))):=by
 have eM:=cA hx;have c3:=R.eu
 obtain⟨a,c,h⟩:=R.shape (r:=.ops g) (n:=x.ops.length) (by simp[aj,hx];intro h;cases hh:x.ops with
  |nil=>rfl
  |cons a l=>rw[hh]at h;simp[bT,Cu]at h)
 have g0:=R.g0 hx;have g1:=R.g hx 1 _ rfl;have g2:=R.g hx 2 _ rfl;have g3:=R.g hx 3 _ rfl;have g4:=R.g hx 4 _ rfl;have HC:Hid (∀j,j<25→(w.cell? ⟨F.gs,g*25+j,none⟩).isSome=true):=fun j hj=>by obtain⟨v,hv⟩:∃v,(gk m g x)[j]?=some v:=⟨_,fv (by rw[wR];exact hj)⟩;rw[R.g hx j v hv];rfl
 have HF:Hid (∀j,w.frozen? ⟨F.gs,j,none⟩=false):=R.frozen R.aB.gs;obtain⟨w2,nt⟩:=dC (w.drew);have A0:=(At.refl R).drew;rw[←nt]at A0;obtain⟨m',A⟩:=A0.clear hx;rw[h]at g0 A;have AH:=ag A;have Rr:=ag nt;clear R hx h A A0 nt;unfold bR;go_enter func84,ntmps84;go_wp2;go_still_tail 24,(by kernel_rfl);change wpList _ _ _ _ _ w.drew;rw[←Rr.out];have Rs:Hid (∀j,j<25→(w2.cell? ⟨F.gs,g*25+j,none⟩).isSome=true):=by rw[Rr.out];exact HC.out
 have Rt:Hid (∀j,w2.frozen? ⟨F.gs,j,none⟩=false):=by rw[Rr.out];exact HF.out
 clear HC HF g0 g1 g2 g3 g4 c3;refine cB rfl 100 (.tmp 34) (.tmp 33) rfl F.gs (g*25) _ rfl rfl (by kernel_rfl) (fun j hj=>Rs.out j hj) (fun j hj=>Rt.out _) (by simp[Value.oneCell']) ?_;go_wp2;go_end0;exact⟨rfl,_,AH.out⟩
theorem bz.eU(R:bz af F w m S){i:Nat}{r:Ring}(h:S.au[i]?=some r):∃rb,m.aV (.eU i)=some rb∧∃a c,m.cU (.places i) r.places.length=.slice a r.places.length c∧w.cell? ⟨rb,0,none⟩=some (.slice a r.places.length c)∧w.cell? ⟨rb,1,none⟩=some (I r.first)∧w.cell? ⟨rb,2,none⟩=some (I r.count)∧(r.places≠[]→∃pb,m.aV (.places i)=some pb∧a=some ⟨pb,0,none⟩∧pb≠rb∧∀j v,r.places[j]?=some v→w.cell? ⟨pb,j,none⟩=some (I v)):=by
 obtain⟨rb,fA⟩:=R.has (r:=.eU i) (by simp[aj,h]);refine⟨rb,fA,?_⟩
 obtain⟨a,c,hh⟩:∃a c,m.cU (.places i) r.places.length=.slice a r.places.length c:=by
  cases hb:m.aV (.places i) with
  |none=>
   have h0:=R.none_ _ hb;simp only[aj,h,List.map_eq_nil_iff]at h0;exact⟨none,0,by rw[Mem.j6 hb,h0];rfl⟩
  |some b=>exact⟨_,_,Mem.de hb _⟩
 refine⟨a,c,hh,?_,R.cell fA (by simp[aj,h]),R.cell fA (by simp[aj,h]),fun cM=>?_⟩
 ·rw[←hh];exact R.cell fA (by simp[aj,h])
 ·obtain⟨pb,CJ⟩:=R.has (r:=.places i) (by simpa[aj,h]using cM);rw[Mem.de CJ]at hh
  cases hh;exact⟨pb,CJ,rfl,R.ne CJ fA,fun j v hv=>R.cell CJ (by simp[aj,h,hv])⟩
theorem qe{S:Wd}{i:Nat}{r:Ring}{y:Ring}(h:S.au[i]?=some r)(g:Nat):(S.au.set i y)[g]?=if g=i then some y else S.au[g]?:=by
 by_cases e:g=i
 ·subst e;rw[aF rfl];exact getElem?_set_self' h
 ·rw[aE e,oA (dE e)]
theorem At.eU(A:At af F m0 w0 m w S){i rb q:Nat}{r:Ring}(h:S.au[i]?=some r)(fA:m.aV (.eU i)=some rb)(y:Ring)(hp:y.places=r.places){v:Value}(hy:[m.cU (.places i) y.places.length,I y.first,I y.count]=[m.cU (.places i) r.places.length,I r.first,I r.count].set q v):At af F m0 w0 m (w.setCell ⟨rb,q,none⟩ v) (S.dZ i y):=by
 refine A.set fA ?_ ?_
 ·simp only[aj,Wd.dZ,qe h,dt,h];exact hy
 ·intro r' hT
  cases r'<;>first|exact aX rfl hT|rfl|(simp only[aj,Wd.dZ,kI];done)|skip
  all_goals
   rename_i k;simp only[aj,Wd.dZ,qe h];by_cases e:k=i
   ·subst e;first|exact aX rfl hT|(simp only[dt,h,hp])
   ·simp only[aE e]
theorem At.ae(A:At af F m0 w0 m w S){i pb j:Nat}{r:Ring}(h:S.au[i]?=some r)(CJ:m.aV (.places i)=some pb)(v:Int):At af F m0 w0 m (w.setCell ⟨pb,j,none⟩ (I v)) (S.dZ i {r with places:=r.places.set j v}):=by
 refine A.set CJ ?_ ?_
 ·simp only[aj,Wd.dZ,qe h,dt,h,List.map_set]
 ·intro r' hT
  cases r'<;>first|exact aX rfl hT|rfl|(simp only[aj,Wd.dZ,kI];done)|skip
  all_goals
   rename_i k;simp only[aj,Wd.dZ,qe h];by_cases e:k=i
   ·subst e;first|exact aX rfl hT|(simp only[dt,h,kI])
   ·simp only[aE e]
theorem uR{S:Wd}{j:Nat}{x y:Ring}(h:S.au[j]?=some x):(S.dZ j y).au[j]?=some y:=getElem?_set_self' h
theorem vM{S:Wd}{j:Nat}{x y:Ring}:(S.dZ j x).dZ j y=S.dZ j y:=by simp[Wd.dZ,my]
theorem sO{S:Wd}{j:Nat}{x:Ring}(h:S.au[j]?=some x):S.dZ j x=S:=by
 have:S.au.set j x=S.au:=by
  apply List.ext_getElem?;intro g;rw[qe h];split
  ·rename_i e;rw[e,h]
  ·rfl
 unfold Wd.dZ;rw[this]
theorem xR(R:bz af F w m S){i rb:Nat}{r:Ring}(h:S.au[i]?=some r)(fA:m.aV (.eU i)=some rb)(ok:r.Ok)(k:Nat)(hk:k≤64)(h0:0<r.places.length):Calls prog 87 #[.pointer (some ⟨rb,0,none⟩),I k] w (eL (I (r.at_ k)) fun w'=>∃n,w'=w.drewN n):=by
 obtain⟨Hw,gr,a,c,hh,c0,c1,c2,_⟩:=R.eU h;rw[fA]at gr
 cases gr;obtain⟨f0,f1,_,_,cP⟩:=ok;obtain⟨f,hf⟩:∃f:Nat,r.first=f:=⟨r.first.toNat,by omega⟩;have hfl:(f:Int)≤64:=by omega
 obtain⟨n,hn⟩:=dC (r.places.length);have e:((r.at_ k:Nat):Int)=((f:Int)+k).tmod n:=by unfold Ring.at_;rw[hf,←hn,Int.tmod_eq_emod_of_nonneg (by omega),Int.toNat_of_nonneg (Int.emod_nonneg _ (by omega))]
 have E:=ag e;rw[←hn]at c0 h0 cP;rw[hf]at c1;have hs:IntKind.i64.wrap ((f:Int)+k)=(f:Int)+k:=jX _ (by omega);have vN:((n:Int)==0)=false:=by simp;omega
 have hp:0≤(f:Int)+k:=by omega
 clear R h fA f0 f1 hh e hf hn;go_enter func87,ntmps87;go_wp2;go_quiet (fail);go_wp2;go_ret;exact⟨by rw[E.out];rfl,_,rfl⟩
theorem vO(R:bz af F w m S){i rb:Nat}{r:Ring}(h:S.au[i]?=some r)(fA:m.aV (.eU i)=some rb):Calls prog 204 #[.pointer (some ⟨rb,0,none⟩)] w (eL (.bool r.full) fun w'=>∃n,w'=w.drewN n):=by
 obtain⟨Hw,gr,a,c,hh,c0,c1,c2,_⟩:=R.eU h;rw[fA]at gr
 cases gr;unfold Ring.full;obtain⟨n,hn⟩:=dC (r.places.length);obtain⟨k,hk⟩:=dC (r.count);rw[←hn]at c0 ⊢;rw[←hk]at c2 ⊢;clear R h fA hh hn hk;go_enter func204,ntmps204;go_wp2;go_quiet (fail);go_wp2;go_ret;exact⟨by first|rfl|(congr 1;simp[beq_eq_decide]),_,rfl⟩
theorem N1(R:bz af F w m S){i rb:Nat}{r:Ring}(h:S.au[i]?=some r)(fA:m.aV (.eU i)=some rb)(ok:r.Ok)(v:Int):Calls prog 153 #[.pointer (some ⟨rb,0,none⟩),I v] w (eL (.bool (r.put v).2) fun w'=>At af F m w m w' (S.dZ i (r.put v).1)):=by
 obtain⟨Hw,gr,a,c,hh,c0,c1,c2,kM⟩:=R.eU h;rw[fA]at gr
 cases gr;have OK:=ag ok;obtain⟨f0,f1,k0,k1,cP⟩:=ok;obtain⟨k,hk⟩:∃k:Nat,r.count=k:=⟨r.count.toNat,by omega⟩;have jO:k≤r.places.length:=by omega
 have HR:=ag (At.refl R);have uv:=ag fA;have HH:=ag h;have HF:=ag (vO R h fA);unfold Ring.put Ring.full;rw[hk]at c2;by_cases oI:k=r.places.length
 ·rw[hk,aF (by simpa using congrArg (Nat.cast:Nat→Int) oI)];rw[sO h];rw[←oI]at c0;have hf:r.full=true:=by unfold Ring.full;rw[hk];simpa using congrArg (Nat.cast:Nat→Int) oI
  rw[hf]at HF;clear R h fA f0 f1 k0 k1 hh oI hk kM;go_enter func153,ntmps153;go_wp2_with fail
  refine HF.out.mono ?_;rintro e w' ⟨rfl,nq,rfl⟩;go_wp2;go_ret;exact⟨rfl,HR.out.drewN _⟩
 ·rw[hk,aE (by simp;omega)];obtain⟨pb,CJ,rfl,cM,Nh⟩:=kM (by intro e;rw[e]at jO oI;simp at jO oI;omega);have CL:r.at_ k<r.places.length:=by unfold Ring.at_;have:=Int.emod_lt_of_pos (r.first+k) (b:=(r.places.length:Int)) (by omega);have:=Int.emod_nonneg (r.first+k) (b:=(r.places.length:Int)) (by omega);omega
  obtain⟨x,hx⟩:∃x,r.places[r.at_ k]?=some x:=⟨_,fv CL⟩;have cx:=Nh _ _ hx;have fx:=R.frozen CJ (r.at_ k);have f2:=R.frozen fA 2;have ks:=fun W (R:bz af F W m S)=>xR R h fA OK.out k (by omega) (by omega)
  obtain⟨j,hj⟩:=dC (r.at_ k);rw[←hj]at cx fx CL ks;rw[←hj];have UA:=ag ks;have wU:=R.lt fA;have UB:=R.lt CJ;have Lk:=cM.symm;obtain⟨n,hn⟩:=dC (r.places.length);rw[←hn]at c0 CL oI jO cP;have A1:=HR.out.ae (j:=j) HH.out CJ v;have A2:=ag (A1.eU (q:=2) (uR HH.out) uv.out {r with places:=r.places.set j v,count:=k+1} rfl (v:=I (k+1)) (by simp));have hb:((k:Int)==(n:Int))=false:=by simp;omega
  have hf:r.full=false:=by unfold Ring.full;rw[hk,←hn];simp;omega
  rw[hf]at HF;clear R h fA f0 f1 k0 k1 hh hk kM Nh hx ks A1 hj hn oI hf;go_enter func153,ntmps153;go_wp2_with fail
  refine HF.out.mono ?_;rintro e w' ⟨rfl,nq,rfl⟩;go_wp2;go_region_with (go_at_call 87;refine(UA.out _ ?_).mono ?_;exact HR.out.bj.heap (fun _ _ _=>rfl);rintro e w' ⟨rfl,nq2,rfl⟩)
  all_goals
   go_wp2;go_ret;exact⟨rfl,(A2.out.eq (vM)).aI⟩
theorem N2(R:bz af F w m S){i rb:Nat}{r:Ring}(h:S.au[i]?=some r)(fA:m.aV (.eU i)=some rb)(ok:r.Ok):Calls prog 209 #[.pointer (some ⟨rb,0,none⟩)] w (eL (.tuple #[I r.get.2.1,.bool r.get.2.2]) fun w'=>At af F m w m w' (S.dZ i r.get.1)):=by
 obtain⟨Hw,gr,a,c,hh,c0,c1,c2,kM⟩:=R.eU h;rw[fA]at gr
 cases gr;have OK:=ag ok;obtain⟨f0,f1,k0,k1,cP⟩:=ok;obtain⟨k,hk⟩:∃k:Nat,r.count=k:=⟨r.count.toNat,by omega⟩;obtain⟨f,hf⟩:∃k:Nat,r.first=k:=⟨r.first.toNat,by omega⟩;have jO:k≤r.places.length:=by omega
 have HR:=ag (At.refl R);have uv:=ag fA;have HH:=ag h;unfold Ring.get;rw[hk]at c2;rw[hf]at c1;by_cases h0:k=0
 ·subst h0;rw[hk,aF (show((0:Nat):Int)=0 from rfl)];rw[sO h];have c3:w.cell? ⟨rb,2,none⟩=some (I 0):=c2;clear R h fA f0 f1 k0 k1 hh hk hf kM c2;go_enter func209,ntmps209;go_wp2;go_ret2;exact⟨rfl,HR.out⟩
 ·rw[hk,aE (by omega)];obtain⟨pb,CJ,rfl,cM,Nh⟩:=kM (by intro e;rw[e]at jO;simp at jO;omega);have CL:f<r.places.length:=by omega
  obtain⟨x,hx⟩:∃x,r.places[f]?=some x:=⟨_,fv CL⟩;have cx:=Nh _ _ hx;have f1':=R.frozen fA 1;have f2':=R.frozen fA 2;have ks:=fun W (R:bz af F W m S)=>xR R h fA OK.out 1 (by omega) (by omega)
  have AF:r.places.getD f 0=x:=by simp[List.getD,hx]
  rw[hf,oU,AF];obtain⟨j,hj⟩:=dC (r.at_ (1:Nat));have Ni:r.at_ 1=j:=hj.symm;rw[←hj]at ks;rw[Ni];have UA:=ag ks;have wU:=R.lt fA;have UB:=R.lt CJ;have Lk:=cM.symm;obtain⟨n,hn⟩:=dC (r.places.length);rw[←hn]at c0 CL jO cP;have A1:=HR.out.eU (q:=1) HH.out uv.out {r with first:=j} rfl (v:=I j) (by simp);have A2:=ag (A1.eU (q:=2) (uR HH.out) uv.out {r with first:=j,count:=k-1} rfl (v:=I (k-1)) (by simp));have hb:((k:Int)==0)=false:=by simp;omega
  clear R h fA f0 f1 k0 k1 hh hk kM Nh hx ks A1 hj Ni hn hf AF h0;go_enter func209,ntmps209;go_wp2;go_quiet (fail);go_wp2_with (go_at_call 87;refine(UA.out _ ?_).mono ?_;exact HR.out.bj.heap (fun _ _ _=>rfl);rintro e w' ⟨rfl,nq2,rfl⟩);go_ret2;exact⟨rfl,(A2.out.eq (vM)).aI⟩
theorem BH(R:bz af F w m S){i rb:Nat}{r:Ring}(h:S.au[i]?=some r)(fA:m.aV (.eU i)=some rb)(ok:r.Ok)(v:Int):Calls prog 208 #[.pointer (some ⟨rb,0,none⟩),I v] w (eL (.tuple #[I (r.pass v).2.1,.bool (r.pass v).2.2]) fun w'=>At af F m w m w' (S.dZ i (r.pass v).1)):=by
 obtain⟨Hw,gr,a,c,hh,c0,c1,c2,kM⟩:=R.eU h;rw[fA]at gr
 cases gr;have OK:=ag ok;obtain⟨f0,f1,k0,k1,cP⟩:=ok;obtain⟨k,hk⟩:∃k:Nat,r.count=k:=⟨r.count.toNat,by omega⟩;obtain⟨f,hf⟩:∃k:Nat,r.first=k:=⟨r.first.toNat,by omega⟩;have jO:k≤r.places.length:=by omega
 have HR:=ag (At.refl R);have uv:=ag fA;have HH:=ag h;have HF:=ag (fun W (R:bz af F W m S)=>vO R h fA);unfold Ring.pass;rw[hk]at c2;rw[hf]at c1;by_cases h0:k=0
 ·subst h0;rw[aF (Or.inl (show r.count=0 from hk))];rw[sO h];have c3:w.cell? ⟨rb,2,none⟩=some (I 0):=c2;clear R h fA f0 f1 k0 k1 hh hk hf kM c2 HF;go_enter func208,ntmps208;go_wp2;go_ret2;exact⟨rfl,HR.out⟩
 have hb:((k:Int)==0)=false:=by simp;omega
 by_cases oI:k=r.places.length
 ·have VG:r.full=true:=by unfold Ring.full;rw[hk];simpa using congrArg (Nat.cast:Nat→Int) oI
  rw[hk,VG,aE (by simp;omega)];rw[VG]at HF;obtain⟨pb,CJ,rfl,cM,Nh⟩:=kM (by intro e;rw[e]at jO;simp at jO;omega);have CL:f<r.places.length:=by omega
  obtain⟨x,hx⟩:∃x,r.places[f]?=some x:=⟨_,fv CL⟩;have cx:=Nh _ _ hx;have fx:=R.frozen CJ f;have f1':=R.frozen fA 1;have AF:r.places.getD f 0=x:=by simp[List.getD,hx]
  rw[hf,oU,AF];obtain⟨j,hj⟩:=dC (r.at_ (1:Nat));have Ni:r.at_ 1=j:=hj.symm;rw[Ni];have A1:=HR.out.ae (j:=f) HH.out CJ v;have ks:=fun W (R:bz af F W m (S.dZ i {r with places:=r.places.set f v}))=>xR R (uR h) fA (r:={r with places:=r.places.set f v}) ⟨f0,by simpa using f1,k0,by simpa using k1,by simpa using cP⟩ 1 (by omega) (by simp;omega)
  have EL:Ring.at_ {r with places:=r.places.set f v} (1:Nat)=j:=by rw[hj];simp[Ring.at_]
  rw[EL]at ks;have UA:=ag ks;have wU:=R.lt fA;have UB:=R.lt CJ;have Lk:=cM.symm;obtain⟨n,hn⟩:=dC (r.places.length);rw[←hn]at c0 CL jO cP;have ri:=ag A1;have A2:=ag (A1.eU (q:=1) (uR HH.out) uv.out {r with places:=r.places.set f v,first:=j,count:=k} rfl (v:=I j) (by simp[hk]));clear R h fA f0 f1 k0 k1 hh hk kM Nh hx ks A1 hj Ni EL hn hf AF h0 VG oI;go_enter func208,ntmps208;go_wp2_with (go_at_call 204;refine(HF.out _ ?_).mono ?_;exact HR.out.bj.heap (fun _ _ _=>rfl);rintro e w' ⟨rfl,nq2,rfl⟩);go_quiet (fail);go_wp2;go_region
  all_goals
   go_wp2_with (go_at_call 87;refine(UA.out _ ?_).mono ?_;exact ri.out.bj.heap (fun _ _ _=>rfl);rintro e w' ⟨rfl,nq3,rfl⟩);go_ret2;exact⟨rfl,(A2.out.eq (vM)).aI⟩
 ·have VG:r.full=false:=by unfold Ring.full;rw[hk];simp;omega
  rw[VG,aF (Or.inr rfl)];rw[VG]at HF;rw[sO h];clear R h fA f0 f1 k0 k1 hh hk hf kM VG oI h0;go_enter func208,ntmps208;go_wp2_with (go_at_call 204;refine(HF.out _ ?_).mono ?_;exact HR.out.bj.heap (fun _ _ _=>rfl);rintro e w' ⟨rfl,nq2,rfl⟩);go_ret2;exact⟨rfl,HR.out.aI⟩
end
section
variable{af:Nat}{F:Fx}{w:World}{m:Mem}{S:Wd}
theorem N3{k n:Nat}(h:k<n):decide ((k:Int)<(n:Int))=true:=by simpa using h
theorem Lp(R:bz af F w m S)(k x:Int)(q':bf)(b:Bool)(hm:S.aw.push k x=some (q',b)):Calls prog 103 #[.pointer (some ⟨F.aw,0,none⟩),I k,I x] w (eL (.bool b) fun w'=>At af F m w m w' {S with aw:=q'}):=by
 have HR:=ag (At.refl R);have cT:=R.xN;have cL:=R.yq;unfold bf.push at hm;by_cases hk:0≤k∧k<S.aw.bM.length
 ·obtain⟨kk,rfl⟩:∃j:Nat,k=j:=⟨k.toNat,by omega⟩;have vA:kk<S.aw.bM.length:=by omega
  obtain⟨l,hl⟩:∃x,S.aw.bM[kk]?=some x:=⟨_,fv vA⟩;have hd:=N3 vA;by_cases hx:0≤x∧x<S.aw.aS.length
  ·obtain⟨j,rfl⟩:∃j:Nat,x=j:=⟨x.toNat,by omega⟩;have hj:j<S.aw.aS.length:=by omega
   obtain⟨t,Nj⟩:∃x,S.aw.aS[j]?=some x:=⟨_,fv hj⟩;obtain⟨e0,e1,e2⟩:=R.thing Nj;obtain⟨l0,l1,l2⟩:=R.line hl;simp only[eR,hl,Nj,oU]at hm;by_cases hi:t.pX≠ -1
   ·rw[aF hi]at hm
    cases hm;have hb:(t.pX != -1)=true:=(by simpa using hi);clear R hk hx hl Nj hi;go_enter func103,ntmps103;go_wp2;go_ret;exact⟨rfl,HR.out⟩
   rw[aE hi]at hm;have Xy:t.pX= -1:=(by simpa using hi);rw[Xy]at e0;by_cases eK:kJ l.count=false
   ·rw[aF eK]at hm;cases hm
   rw[aE eK]at hm;have VH: -1000000000≤l.count∧l.count≤1000000000:=(by simpa[kJ]using eK);have fl:=R.frozen R.aB.bM;have ft:=R.frozen R.aB.aS;have Lq:=R.lt R.aB.aw;have Lr:=R.lt R.aB.aS;have N4:=R.lt R.aB.bM;have vP:=R.ne R.aB.aw R.aB.aS;have xr:=R.ne R.aB.aw R.aB.bM;have vQ:=R.ne R.aB.aS R.aB.aw;have xt:=R.ne R.aB.aS R.aB.bM;have xu:=R.ne R.aB.bM R.aB.aw;have xv:=R.ne R.aB.bM R.aB.aS;have N5:=fun y z h=>R.thing (j:=y) (x:=z) h
   obtain⟨VI,J5,UC,VJ⟩:=ia Nj hl ft N5;have f2:=fl (kk*3+2);have f1:=fl (kk*3+1);have f0:=fl (kk*3);have ft0:=ft (j*3);have ft1:=ft (j*3+1);have ft2:=ft (j*3+2);obtain⟨c,hc⟩:=dC (l.last);rw[←hc]at l1;clear R hk hx Nj hl eK fl ft N5 hi Xy;by_cases ha:l.last= -1
   ·rw[aF ha]at hm
    cases hm;obtain rfl:c= -1:=by rw[hc,ha]
    rw[ha];have A1:=HR.out.vK VI.out {pX:=kk,behind:= -1,ahead:= -1};have A2:=A1.line (q:=0) (j:=kk) (x:=l) J5.out {l with first:=j} (by omega) (v:=I j) rfl;have A3:=A2.line (q:=1) (j:=kk) (x:={l with first:=j}) (lE J5.out) {l with first:=j,last:=j} (by omega) (v:=I j) rfl;have A4:=ag (A3.line (q:=2) (j:=kk) (x:={l with first:=j,last:=j}) (lE (lE J5.out)) {first:=j,last:=j,count:=l.count+1} (by omega) (v:=I (l.count+1)) rfl);clear ha hc A1 A2 A3;go_enter func103,ntmps103;go_wp2;go_region;go_wp2;go_ret;exact⟨rfl,(A4.out.eq (by simp[bf.fe,bf.fJ,my])).drew⟩
   ·rw[aE ha]at hm;simp only[bW,cI]at hm;obtain⟨y,hy,ty,nI,hm⟩:=hm;have uO:=du hy;by_cases Nk:y=j
    ·rw[aF Nk]at hm;cases hm
    rw[aE Nk]at hm
    cases hm;obtain rfl:c=y:=by rw[hc,uO]
    have Hy:((y:Int)== -1)=false:=(by simp);have hyl:y<S.aw.aS.length:=cA nI;obtain⟨t0,t1,t2⟩:=VJ.out y ty nI;have fy:=UC.out (y*3+1);have Ls:y*3+1≠j*3+1:=(by omega);have aw2:y*3+1≠j*3+2:=(by omega);have aw3:y*3+1≠j*3:=(by omega);rw[uO];have A1:=HR.out.vK VI.out {pX:=kk,behind:= -1,ahead:=y};have A2:=A1.thing (q:=1) (j:=y) (x:=ty) (rL nI (fun e=>Nk e.symm)) {ty with behind:=j} (by omega) (v:=I j) rfl;have A3:=A2.line (q:=1) (j:=kk) (x:=l) J5.out {l with last:=j} (by omega) (v:=I j) rfl;have A4:=ag (A3.line (q:=2) (j:=kk) (x:={l with last:=j}) (lE J5.out) {l with last:=j,count:=l.count+1} (by omega) (v:=I (l.count+1)) rfl);clear ha hc A1 A2 A3 nI hy uO;go_enter func103,ntmps103;go_wp2;go_region;go_wp2;go_region;go_wp2;go_ret;exact⟨rfl,(A4.out.eq (by simp[bf.fe,bf.fJ,my])).drew.drew⟩
  ·have h1:x<0∨(0≤x∧(S.aw.aS.length:Int)≤x):=by omega
   rw[iN hx]at hm;simp only[eR,hl]at hm
   cases hm;clear R hk hx hl;go_enter func103,ntmps103;rcases h1 with h1|⟨h0,h1⟩
   all_goals
    go_wp2;go_ret;exact⟨rfl,HR.out⟩
 ·have h1:k<0∨(0≤k∧(S.aw.bM.length:Int)≤k):=by omega
  rw[iN hk]at hm;simp only at hm
  cases hm;clear R hk;go_enter func103,ntmps103;rcases h1 with h1|⟨h0,h1⟩
  ·go_wp2;go_ret;exact⟨rfl,HR.out⟩
  ·have hd:decide (k<(S.aw.bM.length:Int))=false:=by simpa using h1
   go_wp2;go_ret;exact⟨rfl,HR.out⟩
end
end Go.Proofs.YtadifmnmfnihdaaGreat
