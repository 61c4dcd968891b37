import Derived.Test.YtadifmnmfnihdaaGreatA12
set_option linter.all false
set_option maxRecDepth 100000
set_option maxHeartbeats 40000000
namespace Go.Proofs.YtadifmnmfnihdaaGreat
open Go.RowKit Mach Go.Proofs.Tryz
section
variable{af:Nat}{F:Fx}{w w0 w':World}{m m0 m':Mem}{S S':Wd}{L:List (Nat×Obj)}
theorem DN(rb:Nat)(n:Int)(W:World)(h:W.cell? ⟨rb,2,none⟩=some (I n)):Calls prog 203 #[.pointer (some ⟨rb,0,none⟩)] W fun e w'=>e=.returned (I n)∧W=w':=by
 go_enter func203,ntmps203;go_wp2;go_ret;exact⟨rfl,rfl⟩
theorem tu(rb:Nat)(a:Option Addr)(n c:Nat)(W:World)(h:W.cell? ⟨rb,0,none⟩=some (.slice a n c)):Calls prog 53 #[.pointer (some ⟨rb,0,none⟩)] W fun e w'=>e=.returned (I n)∧W=w':=by
 go_enter func53,ntmps53;go_wp2;go_ret;exact⟨rfl,rfl⟩
theorem Tj(R:bz af F w m S)(o:cu)(ca:Option Addr)(cn cc:Nat)(gv:cZ S o.ch=false):Calls prog 143 #[bR F,.agg #[I o.ai,I o.ch,I o.n,I o.v,.slice ca cn cc,B o.dG]] w (eL (I 0) fun w'=>At af F m w m w' S):=by
 have HA:=ag ((At.refl R).alloc (.cells #[I o.ai,I o.ch,I o.n,I o.v,.slice ca cn cc,B o.dG] 49));have HM:=ag (gJ HA.out.bj o.ch);rw[gv]at HM;clear R gv;unfold bR;go_enter func143,ntmps143;go_wp2_with (go_at_call 138;refine HM.out.mono ?_;rintro e w' ⟨rfl,rfl⟩);go_ret;exact⟨rfl,HA.out⟩
theorem PU(R:bz af F w m S)(o:cu)(bO:eX o.ch)(ca:Option Addr)(cn cc:Nat)(gv:cZ S o.ch=true)(c:Nat)(hc:o.ch=c+1)(r:Ring)(hr:S.au[c]?=some r):Calls prog 143 #[bR F,.agg #[I o.ai,I o.ch,I o.n,I o.v,.slice ca cn cc,B o.dG]] w (eL (I (if o.ai=7 then r.count else r.room)) fun w'=>At af F m w m w' S):=by
 have HA:=ag ((At.refl R).alloc (.cells #[I o.ai,I o.ch,I o.n,I o.v,.slice ca cn cc,B o.dG] 49));have HM:=ag (gJ HA.out.bj o.ch);rw[gv]at HM;obtain⟨rr,rb,pL,fA,c5,cp⟩:=R.iJ hr;obtain⟨Hw,gr,a,cq,hh,k0,k1,k2,_⟩:=R.eU hr;rw[fA]at gr
 cases gr;have gm:c<S.au.length:=cA hr;have hs:IntKind.i64.wrap (o.ch-1)=(c:Int):=by rw[jX _ (by omega)];omega
 have WM:=R.lt R.aB.al;have O8:=R.lt pL;have wU:=R.lt fA;unfold Ring.room;obtain⟨n,hn⟩:=dC (r.places.length);rw[←hn]at k0 ⊢;have HL:=ag (fun W h=>DN rb r.count W h);have HR:=ag (fun W h=>tu rb a n cq W h);have hq0:∀(x:Nat),((w.alloc (.cells #[I o.ai,I o.ch,I o.n,I o.v,.slice ca cn cc,B o.dG] 49)).drewN x).cell? ⟨rb,0,none⟩=w.cell? ⟨rb,0,none⟩:=fun x=>kZ (a:=⟨rb,0,none⟩) (gf w _ rb wU)
 have hq2:∀(x:Nat),((w.alloc (.cells #[I o.ai,I o.ch,I o.n,I o.v,.slice ca cn cc,B o.dG] 49)).drewN x).cell? ⟨rb,2,none⟩=w.cell? ⟨rb,2,none⟩:=fun x=>kZ (a:=⟨rb,2,none⟩) (gf w _ rb wU)
 have Q2:Hid (∀(x:Nat),Calls prog 203 #[.pointer (some ⟨rb,0,none⟩)] ((w.alloc (.cells #[I o.ai,I o.ch,I o.n,I o.v,.slice ca cn cc,B o.dG] 49)).drewN x) fun e w'=>e=.returned (I r.count)∧w'=((w.alloc (.cells #[I o.ai,I o.ch,I o.n,I o.v,.slice ca cn cc,B o.dG] 49)).drewN x)):=fun x=>(HL.out _ ((hq2 x).trans k2)).mono fun e w' h=>⟨h.1,h.2.symm⟩
 have Q0:Hid (∀(x:Nat),Calls prog 53 #[.pointer (some ⟨rb,0,none⟩)] ((w.alloc (.cells #[I o.ai,I o.ch,I o.n,I o.v,.slice ca cn cc,B o.dG] 49)).drewN x) fun e w'=>e=.returned (I n)∧w'=((w.alloc (.cells #[I o.ai,I o.ch,I o.n,I o.v,.slice ca cn cc,B o.dG] 49)).drewN x)):=fun x=>(HR.out _ ((hq0 x).trans k0)).mono fun e w' h=>⟨h.1,h.2.symm⟩
 by_cases hk:o.ai=7
 ·rw[aF hk];have hb:(o.ai==7)=true:=by simpa using hk
  clear R gv hr pL fA hh hn hk hq0 hq2 HL HR k0 k2 hc;unfold bR;go_enter func143,ntmps143;go_wp2_with (go_at_call 138;refine HM.out.mono ?_;rintro e w' ⟨rfl,rfl⟩);go_quiet ((go_at_call 203;exact Calls.quiet_of_same (Q2.out _)));go_wp2;go_ret;exact⟨rfl,HA.out.drewN _⟩
 ·rw[aE hk];have hb:(o.ai==7)=false:=by simpa using hk
  clear R gv hr pL fA hh hn hk hq0 hq2 HL HR k0 k2 hc;unfold bR;go_enter func143,ntmps143;go_wp2_with (go_at_call 138;refine HM.out.mono ?_;rintro e w' ⟨rfl,rfl⟩);go_quiet ((go_at_call 53;exact Calls.quiet_of_same (Q0.out _)));go_wp2;go_ret;exact⟨rfl,HA.out.drewN _⟩
theorem Mt(R:bz af F w m S)(o:cu)(bO:eX o.ch)(ca:Option Addr)(cn cc:Nat)(n:Int)(hm:wQ S o=some n):Calls prog 143 #[.pointer (some ⟨F.al,0,none⟩),.agg #[I o.ai,I o.ch,I o.n,I o.v,.slice ca cn cc,B o.dG]] w (eL (I n) fun w'=>At af F m w m w' S):=by
 unfold wQ at hm
 cases gv:cZ S o.ch with
 |false=>rw[aF gv]at hm;cases hm;exact Tj R o ca cn cc gv
 |true=>
  rw[aE (by simp[gv])]at hm;simp only[me]at hm;obtain⟨⟨c,r⟩,tS,hm⟩:=hm;obtain⟨Wi,hr⟩:=kx tS;subst hm;exact PU R o bO ca cn cc gv c Wi r hr
end
end Go.Proofs.YtadifmnmfnihdaaGreat
