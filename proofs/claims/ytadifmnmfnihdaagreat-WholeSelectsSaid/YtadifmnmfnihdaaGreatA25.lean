import Derived.Test.YtadifmnmfnihdaaGreatA14
import Derived.Test.YtadifmnmfnihdaaGreatA15
import Derived.Test.YtadifmnmfnihdaaGreatA21
set_option linter.all false
set_option maxRecDepth 100000
set_option maxHeartbeats 40000000
namespace Go.Proofs.YtadifmnmfnihdaaGreat
open Go.RowKit Mach Go.Proofs.Tryz
section
variable{af:Nat}{F:Fx}{w w0 w':World}{m m0 m':Mem}{S S':Wd}{L:List (Nat×Obj)}
theorem KH{g:Nat}{k Ey hand:Int}{S1:Wd}(hm:Mach.take S g k Ey hand=some (S1,false)):S1=S:=by
 unfold Mach.take at hm;by_cases eK:(S.aw.first k).2=false
 ·rw[aF eK]at hm;cases hm;rfl
 rw[aE eK]at hm;simp only[bW,cI]at hm;obtain⟨s,hs,x,hx,sd,eo,hm⟩:=hm;by_cases lR:0≤sd.case
 ·rw[aF lR]at hm;cases hm
 ·rw[aE lR]at hm;simp only[cI]at hm;obtain⟨S3,h3,S4,h4,hm⟩:=hm
  cases kM:cD S4 g hand with
  |none=>rw[kM]at hm;cases hm
  |some S5=>rw[kM]at hm;cases hm
theorem zL(R:bz af F w m S)(aG:Good S)(g:Nat)(c:Case)(bO:eX c.ch)(j:Nat)(hc:c.ch-1=j)(h:S.aO[j]?=some false)(S':Wd)(ht:Mach.take S g (2*c.ch-2) 26 27=some (S',true)):Calls prog 171 #[bR F,I g,.agg #[B c.cF,I c.ch,I c.v]] w (eL (.tuple #[.agg #[I 0,I 0,I 0,B false,I 0],.bool false,.bool true]) fun w'=>At af F m w m w' S'):=by
 have ie:=ag aG;have HX:=ag (AB.oP (AB.iU R) (.cells #[B c.cF,I c.ch,I c.v] 52) (.cells #[I 0,I 0,I 0,B false,I 0] 44));have hs:IntKind.i64.wrap (c.ch-1)=(j:Int):=by rw[jX _ (by omega)];omega
 obtain⟨cb,fP,c6,cx⟩:=R.ka h;have De:j<S.aO.length:=cA h;have aU:=R.lt R.aB.al;have EX:=R.lt fP;have HT:=ag ht;clear R h fP hc ht aG;unfold bR;go_enter func171,ntmps171;go_wp2_with fail
 go_quiet (fail);go_wp2_with (first|(go_at_call 176;refine(kh c.ch bO _).mono ?_;rintro e w1 ⟨rfl,rfl⟩)|(go_at_call 96;refine(ot (af:=af) (F:=F) (m0:=m) (w0:=w) (m:=m) (L:=[(w.heap.size+1,.cells #[I 0,I 0,I 0,B false,I 0] 44),(w.heap.size,.cells #[B c.cF,I c.ch,I c.v] 52)]) (S:=S) ?_ HT.out).mono ?_;exact HX.out.aI;rintro e wN ⟨rfl,X⟩;obtain⟨r0,r1,r2,r3,r4⟩:=qT X.head;have Hc:=aM X.head 0;have Hd:=aM X.head 1;have Au:=aM X.head 2;have He:=aM X.head 3;have Hf:=aM X.head 4;obtain⟨q0,q1,q2⟩:=Bd X.snd;have HY:=ag X;clear X));have X:=HY.out;refine bodyPost_ret (mJ rfl _ _ (w.heap.size+1) _ _ _ _ _ (0,0) rfl (kF X.head _ _ _ _ _)) rfl ?_;refine⟨rfl,At.xF ?_ (X.loc _ (rn ..)).2 (Nat.le_succ _) _ _ _ _ _⟩;exact X.at_.aI
theorem tw(R:bz af F w m S)(aG:Good S)(b:Bool)(g:Nat)(c:Case)(bO:eX c.ch)(j:Nat)(hc:c.ch-1=j)(h:S.aO[j]?=some false)(ht:Mach.take S g (2*c.ch-2) 26 27=some (S,false))(r:Ring)(hr:S.au[j]?=some r)(hp:(r.put c.v).2=b)(z:Int)(Y6:b=true∧z=1∨b=false∧z=0):Calls prog 171 #[bR F,I g,.agg #[B c.cF,I c.ch,I c.v]] w (eL (.tuple #[.agg #[I z,I 0,I 0,B b,I 0],.bool b,.bool false]) fun w'=>At af F m w m w' (S.dZ j (r.put c.v).1)):=by
 rcases Y6 with⟨rfl,rfl⟩|⟨rfl,rfl⟩
 all_goals
  have ie:=ag aG;have HX:=ag (AB.oP (AB.iU R) (.cells #[B c.cF,I c.ch,I c.v] 52) (.cells #[I 0,I 0,I 0,B false,I 0] 44));have hs:IntKind.i64.wrap (c.ch-1)=(j:Int):=by rw[jX _ (by omega)];omega
  obtain⟨cb,fP,c6,cx⟩:=R.ka h;have De:j<S.aO.length:=cA h;have aU:=R.lt R.aB.al;have EX:=R.lt fP;obtain⟨rr,rb,pL,fA,_,_⟩:=R.iJ hr;obtain⟨HR,uv⟩:=dA hr fA;have lP:=ag (aG.au j r hr);have Bg:=ag pL;have vy:j<S.au.length:=cA hr;have HT:=ag ht;have HP:=ag hp;clear R h fP hc ht aG hr pL fA hp;unfold bR;go_enter func171,ntmps171;go_wp2_with fail
  go_quiet (fail);go_wp2_with (first|(go_at_call 176;refine(kh c.ch bO _).mono ?_;rintro e w1 ⟨rfl,rfl⟩)|(go_at_call 96;refine(ot (af:=af) (F:=F) (m0:=m) (w0:=w) (m:=m) (L:=[(w.heap.size+1,.cells #[I 0,I 0,I 0,B false,I 0] 44),(w.heap.size,.cells #[B c.cF,I c.ch,I c.v] 52)]) (S:=S) ?_ HT.out).mono ?_;exact HX.out.aI;rintro e wN ⟨rfl,X⟩;obtain⟨r0,r1,r2,r3,r4⟩:=qT X.head;have Hc:=aM X.head 0;have Hd:=aM X.head 1;have Au:=aM X.head 2;have He:=aM X.head 3;have Hf:=aM X.head 4;obtain⟨q0,q1,q2⟩:=Bd X.snd;have RN:=X.bj;obtain⟨rr',Hw,zz,gr,d5,dp⟩:=RN.iJ HR.out;rw[Bg.out]at zz;rw[uv.out]at gr;cases zz;cases gr;have l1:=RN.lt RN.aB.al;clear RN;have HY:=ag X;clear X));refine wp_region_still_tail 11 (by kernel_rfl) (by kernel_rfl) ?_;change wpStill _ _ (World.drew _) (fun a=>wpList _ _ _ _ a (World.drew _)) _ _;simp only[sS,sX,sU,rC];repeat still_step
  refine wpStill_nil ?_;go_wp2_with (go_at_call 153;refine(DM (af:=af) (F:=F) (m0:=m) (w0:=w) (m:=m) (L:=[(w.heap.size+1,.cells #[I 0,I 0,I 0,B false,I 0] 44),(w.heap.size,.cells #[B c.cF,I c.ch,I c.v] 52)]) (S:=S) ?_ HR.out uv.out lP.out c.v).mono ?_;exact HY.out.aI;rw[HP.out];rintro e wM ⟨rfl,X⟩;obtain⟨r0,r1,r2,r3,r4⟩:=qT X.head;have Hc:=aM X.head 0;have Hd:=aM X.head 1;have Au:=aM X.head 2;have He:=aM X.head 3;have Hf:=aM X.head 4;obtain⟨q0,q1,q2⟩:=Bd X.snd;have HZ:=ag X;clear X);have X:=HZ.out;refine bodyPost_ret (mJ rfl _ _ (w.heap.size+1) _ _ _ _ _ (0,0) rfl (kF X.head _ _ _ _ _)) rfl ?_;refine⟨rfl,At.xF ?_ (X.loc _ (rn ..)).2 (Nat.le_succ _) _ _ _ _ _⟩;exact X.at_.aI
theorem zM(R:bz af F w m S)(aG:Good S)(g:Nat)(c:Case)(bO:eX c.ch)(S':Wd)(ht:Mach.take S g (2*c.ch-1) 26 27=some (S',true)):Calls prog 172 #[bR F,I g,.agg #[B c.cF,I c.ch,I c.v]] w (eL (.tuple #[.agg #[I 0,I 0,I 0,B false,I 0],.bool false,.bool true]) fun w'=>At af F m w m w' S'):=by
 have ie:=ag aG;have HX:=ag (AB.oP (AB.iU R) (.cells #[B c.cF,I c.ch,I c.v] 52) (.cells #[I 0,I 0,I 0,B false,I 0] 44));have HT:=ag ht;clear R ht aG;unfold bR;go_enter func172,ntmps172;go_wp2_with (first|(go_at_call 177;refine(kb c.ch bO _).mono ?_;rintro e w1 ⟨rfl,rfl⟩)|(go_at_call 96;refine(ot (af:=af) (F:=F) (m0:=m) (w0:=w) (m:=m) (L:=[(w.heap.size+1,.cells #[I 0,I 0,I 0,B false,I 0] 44),(w.heap.size,.cells #[B c.cF,I c.ch,I c.v] 52)]) (S:=S) ?_ HT.out).mono ?_;exact HX.out.aI;rintro e wN ⟨rfl,X⟩;obtain⟨r0,r1,r2,r3,r4⟩:=qT X.head;have Hc:=aM X.head 0;have Hd:=aM X.head 1;have Au:=aM X.head 2;have He:=aM X.head 3;have Hf:=aM X.head 4;obtain⟨q0,q1,q2⟩:=Bd X.snd;have HY:=ag X;clear X));have X:=HY.out;refine bodyPost_ret (mJ rfl _ _ (w.heap.size+1) _ _ _ _ _ (0,0) rfl (kF X.head _ _ _ _ _)) rfl ?_;refine⟨rfl,At.xF ?_ (X.loc _ (rn ..)).2 (Nat.le_succ _) _ _ _ _ _⟩;exact X.at_.aI
theorem Bh(R:bz af F w m S)(aG:Good S)(g:Nat)(c:Case)(bO:eX c.ch)(j:Nat)(hc:c.ch-1=j)(ht:Mach.take S g (2*c.ch-1) 26 27=some (S,false))(r:Ring)(hr:S.au[j]?=some r)(hp:r.get.2.2=true):Calls prog 172 #[bR F,I g,.agg #[B c.cF,I c.ch,I c.v]] w (eL (.tuple #[.agg #[I 1,I 0,I r.get.2.1,B true,I 0],.bool true,.bool false]) fun w'=>At af F m w m w' (S.dZ j r.get.1)):=by
 have ie:=ag aG;have HX:=ag (AB.oP (AB.iU R) (.cells #[B c.cF,I c.ch,I c.v] 52) (.cells #[I 0,I 0,I 0,B false,I 0] 44));have hs:IntKind.i64.wrap (c.ch-1)=(j:Int):=by rw[jX _ (by omega)];omega
 obtain⟨rr,rb,pL,fA,_,_⟩:=R.iJ hr;obtain⟨HR,uv⟩:=dA hr fA;have lP:=ag (aG.au j r hr);have Bg:=ag pL;have vy:j<S.au.length:=cA hr;have HT:=ag ht;have HP:=ag hp;clear R hc ht aG hr pL fA hp;unfold bR;go_enter func172,ntmps172;go_wp2_with (first|(go_at_call 177;refine(kb c.ch bO _).mono ?_;rintro e w1 ⟨rfl,rfl⟩)|(go_at_call 96;refine(ot (af:=af) (F:=F) (m0:=m) (w0:=w) (m:=m) (L:=[(w.heap.size+1,.cells #[I 0,I 0,I 0,B false,I 0] 44),(w.heap.size,.cells #[B c.cF,I c.ch,I c.v] 52)]) (S:=S) ?_ HT.out).mono ?_;exact HX.out.aI;rintro e wN ⟨rfl,X⟩;obtain⟨r0,r1,r2,r3,r4⟩:=qT X.head;have Hc:=aM X.head 0;have Hd:=aM X.head 1;have Au:=aM X.head 2;have He:=aM X.head 3;have Hf:=aM X.head 4;obtain⟨q0,q1,q2⟩:=Bd X.snd;have RN:=X.bj;obtain⟨rr',Hw,zz,gr,d5,dp⟩:=RN.iJ HR.out;rw[Bg.out]at zz;rw[uv.out]at gr;cases zz;cases gr;have l1:=RN.lt RN.aB.al;clear RN;have HY:=ag X;clear X));go_region_with (go_at_call 209;refine(zb (af:=af) (F:=F) (m0:=m) (w0:=w) (m:=m) (L:=[(w.heap.size+1,.cells #[I 0,I 0,I 0,B false,I 0] 44),(w.heap.size,.cells #[B c.cF,I c.ch,I c.v] 52)]) (S:=S) ?_ HR.out uv.out lP.out).mono ?_;exact HY.out.aI;rw[HP.out];rintro e wM ⟨rfl,X⟩;obtain⟨r0,r1,r2,r3,r4⟩:=qT X.head;have Hc:=aM X.head 0;have Hd:=aM X.head 1;have Au:=aM X.head 2;have He:=aM X.head 3;have Hf:=aM X.head 4;obtain⟨q0,q1,q2⟩:=Bd X.snd;have HZ:=ag X;clear X)
 all_goals
  go_wp2;have X:=HZ.out;refine bodyPost_ret (mJ rfl _ _ (w.heap.size+1) _ _ _ _ _ (0,0) rfl (kF X.head _ _ _ _ _)) rfl ?_;refine⟨rfl,At.xF ?_ (X.loc _ (rn ..)).2 (Nat.le_succ _) _ _ _ _ _⟩;exact X.at_.aI
theorem xj(R:bz af F w m S)(aG:Good S)(b:Bool)(g:Nat)(c:Case)(bO:eX c.ch)(j:Nat)(hc:c.ch-1=j)(h:S.aO[j]?=some b)(z:Int)(Y6:b=true∧z=1∨b=false∧z=0)(ht:Mach.take S g (2*c.ch-1) 26 27=some (S,false))(r:Ring)(hr:S.au[j]?=some r)(hp:r.get.2.2=false):Calls prog 172 #[bR F,I g,.agg #[B c.cF,I c.ch,I c.v]] w (eL (.tuple #[.agg #[I z,I 0,I 0,B false,I 0],.bool b,.bool false]) fun w'=>At af F m w m w' (S.dZ j r.get.1)):=by
 rcases Y6 with⟨rfl,rfl⟩|⟨rfl,rfl⟩
 all_goals
  have ie:=ag aG;have HX:=ag (AB.oP (AB.iU R) (.cells #[B c.cF,I c.ch,I c.v] 52) (.cells #[I 0,I 0,I 0,B false,I 0] 44));have hs:IntKind.i64.wrap (c.ch-1)=(j:Int):=by rw[jX _ (by omega)];omega
  obtain⟨rr,rb,pL,fA,_,_⟩:=R.iJ hr;obtain⟨HR,uv⟩:=dA hr fA;have lP:=ag (aG.au j r hr);have Bg:=ag pL;have vy:j<S.au.length:=cA hr;have HT:=ag ht;have HP:=ag hp;have tP:Hid ((S.dZ j r.get.1).aO[j]?=some _):=h;have De:j<S.aO.length:=cA h;clear R hc ht aG hr pL fA hp h;unfold bR;go_enter func172,ntmps172;go_wp2_with (first|(go_at_call 177;refine(kb c.ch bO _).mono ?_;rintro e w1 ⟨rfl,rfl⟩)|(go_at_call 96;refine(ot (af:=af) (F:=F) (m0:=m) (w0:=w) (m:=m) (L:=[(w.heap.size+1,.cells #[I 0,I 0,I 0,B false,I 0] 44),(w.heap.size,.cells #[B c.cF,I c.ch,I c.v] 52)]) (S:=S) ?_ HT.out).mono ?_;exact HX.out.aI;rintro e wN ⟨rfl,X⟩;obtain⟨r0,r1,r2,r3,r4⟩:=qT X.head;have Hc:=aM X.head 0;have Hd:=aM X.head 1;have Au:=aM X.head 2;have He:=aM X.head 3;have Hf:=aM X.head 4;obtain⟨q0,q1,q2⟩:=Bd X.snd;have RN:=X.bj;obtain⟨rr',Hw,zz,gr,d5,dp⟩:=RN.iJ HR.out;rw[Bg.out]at zz;rw[uv.out]at gr;cases zz;cases gr;have l1:=RN.lt RN.aB.al;clear RN;have HY:=ag X;clear X));go_region_with (go_at_call 209;refine(zb (af:=af) (F:=F) (m0:=m) (w0:=w) (m:=m) (L:=[(w.heap.size+1,.cells #[I 0,I 0,I 0,B false,I 0] 44),(w.heap.size,.cells #[B c.cF,I c.ch,I c.v] 52)]) (S:=S) ?_ HR.out uv.out lP.out).mono ?_;exact HY.out.aI;rw[HP.out];rintro e wM ⟨rfl,X⟩;obtain⟨r0,r1,r2,r3,r4⟩:=qT X.head;have Hc:=aM X.head 0;have Hd:=aM X.head 1;have Au:=aM X.head 2;have He:=aM X.head 3;have Hf:=aM X.head 4;obtain⟨q0,q1,q2⟩:=Bd X.snd;have RN:=X.bj;obtain⟨cb,fP,c6,cx⟩:=RN.ka tP.out;have l1:=RN.lt RN.aB.al;have l2:=RN.lt fP;rw[show(S.dZ j r.get.1).aO.length=S.aO.length from rfl]at c6;clear RN fP;have HZ:=ag X;clear X)
  all_goals
   go_wp2_with fail
   go_quiet (fail);go_wp2;have X:=HZ.out;refine bodyPost_ret (mJ rfl _ _ (w.heap.size+1) _ _ _ _ _ (0,0) rfl (kF X.head _ _ _ _ _)) rfl ?_;refine⟨rfl,At.xF ?_ (X.loc _ (rn ..)).2 (Nat.le_succ _) _ _ _ _ _⟩;exact X.at_.aI
theorem Bi(R:bz af F w m S)(g:Nat)(o:cu)(dj:o.cases.length≤1000)(Jl:1≤o.cases.length)(ca:Option Addr)(cc:Nat)(S':Wd)(hm:j3 S g o=some S'):Calls prog 174 #[.pointer (some ⟨F.al,0,none⟩),I g,.agg #[I o.ai,I o.ch,I o.n,I o.v,.slice ca o.cases.length cc,B o.dG]] w (ee (To af F m w S')):=by
 unfold j3 at hm;simp only[bW,cI]at hm;obtain⟨x,hx,hm⟩:=hm;by_cases h1:kJ x.k=false
 ·rw[aF h1]at hm;cases hm
 rw[aE h1]at hm;have hk:=lM h1;by_cases dD:x.k+1<x.aH.length
 ·rw[aF dD]at hm
  cases hm;exact(AX R g x hx x.k rfl hk o ca _ cc dD).mono fun e w' ⟨h1,h2⟩=>⟨h1,m,h2⟩
 rw[aE dD]at hm
 cases he:o.dG with
 |true=>
  rw[he,aF rfl]at hm;unfold te fL at hm;rw[az hx]at hm
  cases hm;have h:=AY R g x hx x.k rfl hk o ca o.cases.length cc dD he;rw[he]at h;exact h.mono fun e w' ⟨h1,h2⟩=>⟨h1,m,h2⟩
 |false=>
  rw[he,aE (by simp)]at hm
  cases hm;have h:=AZ R g x hx x.k rfl hk o ca o.cases.length cc dD he Jl dj;rw[he]at h;exact h
theorem Qk{S:Wd}{j:Int}{b:Bool}(h:idx S.aO j=some b):∃n:Nat,j=n∧S.aO[n]?=some b:=by
 obtain⟨n,h1,_,h2⟩:=mO h;exact⟨n,h1,h2⟩
theorem Gh{ch v:Int}{S1:Wd}{b:Bool}(h:lj S ch v=some (S1,b)):∃(j:Nat) (r:Ring),ch-1=j∧S.au[j]?=some r∧S1=S.dZ j (r.put v).1∧b=(r.put v).2:=by
 unfold lj kq at h;simp only[bW,cI]at h;obtain⟨⟨j,r⟩,⟨c,hc,r',hr,h2⟩,h3⟩:=h
 cases h2
 cases h3;exact⟨_,_,du hc,hr,rfl,rfl⟩
theorem Gi{ch v:Int}{S1:Wd}{b:Bool}(h:getRing S ch=some (S1,v,b)):∃(j:Nat) (r:Ring),ch-1=j∧S.au[j]?=some r∧S1=S.dZ j r.get.1∧v=r.get.2.1∧b=r.get.2.2:=by
 unfold getRing kq at h;simp only[bW,cI]at h;obtain⟨⟨j,r⟩,⟨c,hc,r',hr,h2⟩,h3⟩:=h
 cases h2
 cases h3;exact⟨_,_,du hc,hr,rfl,rfl,rfl⟩
theorem Bj(R:bz af F w m S)(aG:Good S)(g:Nat)(c:Case)(bO:eX c.ch)(S1:Wd)(r:nP)(dn tk:Bool)(hm:j4 S g c=some (S1,r,dn,tk)):Calls prog 171 #[.pointer (some ⟨F.al,0,none⟩),I g,.agg #[B c.cF,I c.ch,I c.v]] w (eL (.tuple #[.agg #[I r.aJ,I r.case,I r.v,B r.ok,I r.n],.bool dn,.bool tk]) fun w'=>At af F m w m w' S1):=by
 unfold j4 at hm;simp only[bW,cI]at hm;obtain⟨cl,gm,hm⟩:=hm;obtain⟨j,hj,gm⟩:=Qk gm
 cases cl with
 |true=>
  simp only[dt,oZ]at hm
  cases hm;have h:=xG R g c j (by omega) (by omega) gm;exact h
 |false=>
  simp only[nW,dF,cI]at hm;obtain⟨⟨S2,ok⟩,h2,hm⟩:=hm
  cases ok with
  |true=>
   simp only[dt,oZ]at hm
   cases hm;exact zL R aG g c bO j hj gm S1 h2
  |false=>
   have e:=KH h2;subst e;simp only[nW,dF,cI]at hm;obtain⟨⟨S3,ok3⟩,h3,hm⟩:=hm;obtain⟨j',rg,Vr,hr,rfl,rfl⟩:=Gh h3;obtain rfl:j'=j:=by omega
   cases hp:(rg.put c.v).2 with
   |true=>
    simp only[hp,dt,oZ]at hm
    cases hm;exact tw R aG _ g c bO j' hj gm h2 rg hr hp _ (.inl ⟨rfl,rfl⟩)
   |false=>
    simp only[hp,nW,dF,oZ]at hm
    cases hm;exact tw R aG _ g c bO j' hj gm h2 rg hr hp _ (.inr ⟨rfl,rfl⟩)
theorem Bk(R:bz af F w m S)(aG:Good S)(g:Nat)(c:Case)(bO:eX c.ch)(S1:Wd)(r:nP)(dn tk:Bool)(hm:j5 S g c=some (S1,r,dn,tk)):Calls prog 172 #[.pointer (some ⟨F.al,0,none⟩),I g,.agg #[B c.cF,I c.ch,I c.v]] w (eL (.tuple #[.agg #[I r.aJ,I r.case,I r.v,B r.ok,I r.n],.bool dn,.bool tk]) fun w'=>At af F m w m w' S1):=by
 unfold j5 at hm;simp only[bW,cI]at hm;obtain⟨⟨S2,ok⟩,h2,hm⟩:=hm
 cases ok with
 |true=>
  simp only[dt,oZ]at hm
  cases hm
  obtain⟨j,hj⟩:∃j:Nat,c.ch-1=j∨c.ch-1<0:=by
   rcases Int.lt_or_le (c.ch-1) 0 with h|h
   ·exact⟨0,.inr h⟩
   ·obtain⟨n,hn⟩:=pz h;exact⟨n,.inl hn⟩
  exact zM R aG g c bO S1 h2
 |false=>
  have e:=KH h2;subst e;simp only[nW,dF,cI]at hm;obtain⟨⟨S3,v,ok3⟩,h3,hm⟩:=hm;obtain⟨j,rg,hj,hr,rfl,rfl,rfl⟩:=Gi h3
  cases hp:rg.get.2.2 with
  |true=>
   simp only[hp,dt,oZ]at hm
   cases hm;exact Bh R aG g c bO j hj h2 rg hr hp
  |false=>
   simp only[hp,nW,dF,cI]at hm;obtain⟨cl,gm,hm⟩:=hm;obtain⟨j',Vr,gm⟩:=Qk gm;obtain rfl:j'=j:=by omega
   cases cl with
   |true=>
    simp only[dt,oZ]at hm
    cases hm;exact xj R aG _ g c bO j' hj gm _ (.inl ⟨rfl,rfl⟩) h2 rg hr hp
   |false=>
    simp only[nW,dF,oZ]at hm
    cases hm;exact xj R aG _ g c bO j' hj gm _ (.inr ⟨rfl,rfl⟩) h2 rg hr hp
theorem sx(X:AB af F m0 w0 m w S L)(aG:Good S)(g:Nat){c:Case}(bO:eX c.ch){S1:Wd}{r:nP}{dn tk:Bool}(hm:j4 S g c=some (S1,r,dn,tk)):Calls prog 171 #[bR F,I g,.agg #[B c.cF,I c.ch,I c.v]] w (eL (.tuple #[.agg #[I r.aJ,I r.case,I r.v,B r.ok,I r.n],.bool dn,.bool tk]) fun w'=>AB af F m0 w0 m w' S1 L):=
 (Bj X.bj aG g c bO S1 r dn tk hm).mono fun e w' ⟨h1,h2⟩=>⟨h1,X.av h2⟩
theorem sy(X:AB af F m0 w0 m w S L)(aG:Good S)(g:Nat){c:Case}(bO:eX c.ch){S1:Wd}{r:nP}{dn tk:Bool}(hm:j5 S g c=some (S1,r,dn,tk)):Calls prog 172 #[bR F,I g,.agg #[B c.cF,I c.ch,I c.v]] w (eL (.tuple #[.agg #[I r.aJ,I r.case,I r.v,B r.ok,I r.n],.bool dn,.bool tk]) fun w'=>AB af F m0 w0 m w' S1 L):=
 (Bk X.bj aG g c bO S1 r dn tk hm).mono fun e w' ⟨h1,h2⟩=>⟨h1,X.av h2⟩
theorem Gj(X:AB af F m0 w0 m w S L)(g:Nat){o:cu}(dj:o.cases.length≤1000)(Jl:1≤o.cases.length)(ca:Option Addr)(cc:Nat){S':Wd}(hm:j3 S g o=some S'):Calls prog 174 #[bR F,I g,.agg #[I o.ai,I o.ch,I o.n,I o.v,.slice ca o.cases.length cc,B o.dG]] w (ee fun w'=>∃m',AB af F m0 w0 m' w' S' L):=
 (Bi X.bj g o dj Jl ca cc S' hm).mono fun e w' ⟨h1,m',h2⟩=>⟨h1,m',X.av h2⟩
theorem Bl(X:AB af F m0 w0 m w S L){g:Nat}{S':Wd}(hm:eH S g=some S'):Calls prog 114 #[bR F,I g] w (ee fun w'=>AB af F m0 w0 m w' S' L):=
 (rm X.bj g S' hm).mono fun e w' ⟨h1,h2⟩=>⟨h1,X.av h2⟩
theorem TL(X:AB af F m0 w0 m w S L){g:Nat}{x:bI}(hx:S.gs[g]?=some x)(r:nP):Calls prog 173 #[bR F,I g,.agg #[I r.aJ,I r.case,I r.v,B r.ok,I r.n]] w (ee fun w'=>AB af F m0 w0 m w' (S.ay g (eZ {x with res:=r,point:=S.av,fire:=r.case} 30)) L):=
 (Ce X.bj g x hx r).mono fun e w' ⟨h1,h2⟩=>⟨h1,X.av h2⟩
theorem yd(X:AB af F m0 w0 m w S L){g:Nat}{x:bI}(hx:S.gs[g]?=some x){h:Int}(hh:dU x=some h):Calls prog 170 #[.pointer (some ⟨F.al,0,none⟩),I g] w fun e w'=>e=.returned (I h)∧∃n,w'=w.drewN n:=vX X.bj g x hx h hh
def CB(b:Nat)(ob:Obj)(cs:List Case):Prop:=∀(W:World),W.heap[b]?=some ob→∀j c,cs[j]?=some c→W.cell? ⟨b,j*3,none⟩=some (B c.cF)∧W.cell? ⟨b,j*3+1,none⟩=some (I c.ch)∧W.cell? ⟨b,j*3+2,none⟩=some (I c.v)
theorem dm.block{H:Nat}{v:Value}{cs:List Case}(h:dm H w' v cs)(A:At af F m w m w' S)(R:bz af F w m S)(hH:w.heap.size≤H)(cM:cs≠[]):∃nb cap ob,v=.slice (some ⟨nb,0,none⟩) cs.length cap∧CB nb ob cs∧AB af F m w m w' S [(nb,ob)]:=by
 rcases h with h|⟨nb,cap,h1,h2,h3,h4,h5⟩
 ·exact aX h.1 cM
 ·obtain⟨ob,jz⟩:∃ob,w'.heap[nb]?=some ob:=⟨_,xL h4⟩;refine⟨nb,cap,ob,h2,fun W hW j c hj=>?_,A,fun p hp=>?_⟩
  ·have hb:W.heap[nb]?=w'.heap[nb]?:=hW.trans jz.symm;have e:∀j,W.cell? ⟨nb,j,none⟩=w'.cell? ⟨nb,j,none⟩:=fun j=>kZ (w:=w') (w':=W) (a:=⟨nb,j,none⟩) hb
   rw[e,e,e];exact h5 j c hj
  ·simp at hp;subst hp;exact⟨jz,R.iT (by show w.heap.size≤nb;omega)⟩
theorem AB.xF{b:Nat}{a0 a1 a2 a3 a4:Value}(X:AB af F m0 w0 m w S ((b,.cells #[a0,a1,a2,a3,a4] 44)::L))(hb:w0.heap.size≤b)(hL:∀p∈L,p.1≠b)(v0 v1 v2 v3 v4:Value):AB af F m0 w0 m (((((w.setCell ⟨b,0,none⟩ v0).setCell ⟨b,1,none⟩ v1).setCell ⟨b,2,none⟩ v2).setCell ⟨b,3,none⟩ v3).setCell ⟨b,4,none⟩ v4) S ((b,.cells #[v0,v1,v2,v3,v4] 44)::L):=by
 refine⟨X.at_.xF (X.loc _ (rn ..)).2 hb _ _ _ _ _,fun p hp=>?_⟩;rcases iL.1 hp with h|h
 ·subst h;exact⟨kF X.head _ _ _ _ _,(X.loc (b,.cells #[a0,a1,a2,a3,a4] 44) (rn ..)).2⟩
 ·refine⟨?_,(X.loc p (nO _ h)).2⟩;have XR:=(X.loc p (nO _ h)).1;have cM:=hL p h;rw[fQ _ _ _ _ cM,fQ _ _ _ _ cM,fQ _ _ _ _ cM,fQ _ _ _ _ cM,fQ _ _ _ _ cM];exact XR
theorem AB.vn(X:AB af F m0 w0 m w S L)(o1 o2:Obj):AB af F m0 w0 m ((w.alloc o1).alloc o2) S ((w.heap.size+1,o2)::(w.heap.size,o1)::L):=by
 have h:=(X.alloc o1).alloc o2;rw[show(w.alloc o1).heap.size=w.heap.size+1 by simp]at h;exact h
theorem AB.Ql(X:AB af F m0 w0 m w S L)(o1:Obj):∀p∈(w.heap.size,o1)::L,p.1≠w.heap.size+1:=by
 intro p hp;rcases iL.1 hp with h|h
 ·subst h;show w.heap.size≠_;omega
 ·have:=(dh (X.loc p h).1).1;omega
theorem AB.sizeLe(X:AB af F m0 w0 m w S L):w0.heap.size≤w.heap.size:=X.at_.mv.size
theorem AB.case{b:Nat}{a0 a1 a2 a3 a4:Value}(X:AB af F m0 w0 m w S ((b,.cells #[a0,a1,a2,a3,a4] 44)::L))(hb:w0.heap.size≤b)(hL:∀p∈L,p.1≠b)(v:Value):AB af F m0 w0 m (w.setCell ⟨b,1,none⟩ v) S ((b,.cells #[a0,v,a2,a3,a4] 44)::L):=by
 refine⟨X.at_.other (X.loc _ (rn ..)).2 hb _,fun p hp=>?_⟩;rcases iL.1 hp with h|h
 ·subst h;exact⟨heap_setCell_same _ b 1 _ _ v X.head,(X.loc (b,.cells #[a0,a1,a2,a3,a4] 44) (rn ..)).2⟩
 ·refine⟨?_,(X.loc p (nO _ h)).2⟩;rw[fQ _ _ _ _ (hL p h)];exact(X.loc p (nO _ h)).1
theorem zN(X0:AB af F m0 w0 m w S L)(aG:Good S)(g:Nat)(x:bI)(hx:S.gs[g]?=some x)(i:Int)(hi:dU x=some i)(o:cu)(dj:o.cases.length≤1000)(nb:Nat)(ob:Obj)(fD:(nb,ob)∈L)(fP:CB nb ob o.cases)(cc:Nat)(k:Nat)(hk:i=k)(c:Case)(hc:o.cases[k]?=some c)(bO:eX c.ch)(S1:Wd)(r:nP)(dn:Bool)(h1:(c.cF=true∧j4 S g c=some (S1,r,dn,true))∨(c.cF=false∧j5 S g c=some (S1,r,dn,true)))(S':Wd)(h2:eH S1 g=some S'):Calls prog 113 #[bR F,I g,.agg #[I o.ai,I o.ch,I o.n,I o.v,.slice (some ⟨nb,0,none⟩) o.cases.length cc,B o.dG]] w (ee fun w'=>∃m',AB af F m0 w0 m' w' S' L):=by
 rcases h1 with⟨hs,h1⟩|⟨hs,h1⟩
 all_goals
  have vA:k<o.cases.length:=cA hc;have Jl:1≤o.cases.length:=by omega
  obtain⟨n0,n1,n2⟩:=fP w (X0.loc _ fD).1 k c hc;have Vb:nb<w.heap.size:=(dh (X0.loc _ fD).1).1;have jc:=ag (X0.alloc (eD o (some ⟨nb,0,none⟩) cc));have HX:=ag (X0.vn (eD o (some ⟨nb,0,none⟩) cc) (.cells #[I 0,I 0,I 0,B false,I 0] 44));have E8:=ag (X0.Ql (eD o (some ⟨nb,0,none⟩) cc));have xW:=ag X0.sizeLe;obtain⟨oR,HH,ie,H1,H2⟩:=jW hx hi aG h1 h2;rw[hk]at HH;obtain⟨cs,ch,cv⟩:=c;simp only at hs bO n0 n1 n2;subst hs;clear X0 aG hx hi fD fP hc h1 h2;subst hk;unfold bR;go_enter func113,ntmps113;go_wp2_with (first|(go_at_call 170;refine(yd (af:=af) (F:=F) (m0:=m0) (w0:=w0) (m:=m) (L:=(w.heap.size,eD o (some ⟨nb,0,none⟩) cc)::L) (S:=S) ?_ oR.out HH.out).mono ?_;exact jc.out.aI;rintro e w1 ⟨rfl,nq,rfl⟩)|(go_at_call 171;refine(sx (af:=af) (F:=F) (m0:=m0) (w0:=w0) (m:=m) (L:=((w.heap.size+1,.cells #[I 0,I 0,I 0,B false,I 0] 44)::(w.heap.size,eD o (some ⟨nb,0,none⟩) cc)::L)) (S:=S) ?_ ie.out g bO H1.out).mono ?_;exact HX.out.aI;rintro e wN ⟨rfl,X⟩;obtain⟨r0,r1,r2,r3,r4⟩:=qT X.head;have Hc:=aM X.head 0;have Hd:=aM X.head 1;have Au:=aM X.head 2;have He:=aM X.head 3;have Hf:=aM X.head 4;obtain⟨q0,q1,q2,q3,q4,q5⟩:=jD X.snd;have HY:=ag X;clear X)|(go_at_call 172;refine(sy (af:=af) (F:=F) (m0:=m0) (w0:=w0) (m:=m) (L:=((w.heap.size+1,.cells #[I 0,I 0,I 0,B false,I 0] 44)::(w.heap.size,eD o (some ⟨nb,0,none⟩) cc)::L)) (S:=S) ?_ ie.out g bO H1.out).mono ?_;exact HX.out.aI;rintro e wN ⟨rfl,X⟩;obtain⟨r0,r1,r2,r3,r4⟩:=qT X.head;have Hc:=aM X.head 0;have Hd:=aM X.head 1;have Au:=aM X.head 2;have He:=aM X.head 3;have Hf:=aM X.head 4;obtain⟨q0,q1,q2,q3,q4,q5⟩:=jD X.snd;have HY:=ag X;clear X));have Y5:=HY.out.xF (Nat.le_succ_of_le xW.out) E8.out (I r.aJ) (I r.case) (I r.v) (B r.ok) (I r.n);have HY5:=ag Y5;clear Y5;go_wp2_with (go_at_call 114;refine(Bl (af:=af) (F:=F) (m0:=m0) (w0:=w0) (m:=m) (L:=((w.heap.size+1,.cells #[I r.aJ,I r.case,I r.v,B r.ok,I r.n] 44)::(w.heap.size,eD o (some ⟨nb,0,none⟩) cc)::L)) (S:=S1) ?_ H2.out).mono ?_;exact HY5.out.aI;rintro e wM ⟨rfl,X⟩;have HZ:=ag X;clear X);go_end0;exact⟨rfl,_,HZ.out.less fun p hp=>nO _ (nO _ hp)⟩
theorem Cl(X0:AB af F m0 w0 m w S L)(aG:Good S)(g:Nat)(x:bI)(hx:S.gs[g]?=some x)(i:Int)(hi:dU x=some i)(o:cu)(dj:o.cases.length≤1000)(nb:Nat)(ob:Obj)(fD:(nb,ob)∈L)(fP:CB nb ob o.cases)(cc:Nat)(k:Nat)(hk:i=k)(c:Case)(hc:o.cases[k]?=some c)(bO:eX c.ch)(S1:Wd)(r:nP)(h1:(c.cF=true∧j4 S g c=some (S1,r,true,false))∨(c.cF=false∧j5 S g c=some (S1,r,true,false)))(x1:bI)(h2:S1.gs[g]?=some x1):Calls prog 113 #[bR F,I g,.agg #[I o.ai,I o.ch,I o.n,I o.v,.slice (some ⟨nb,0,none⟩) o.cases.length cc,B o.dG]] w (ee fun w'=>∃m',AB af F m0 w0 m' w' (S1.ay g (eZ {x1 with res:={r with case:=i},point:=S1.av,fire:=i} 30)) L):=by
 rcases h1 with⟨hs,h1⟩|⟨hs,h1⟩
 all_goals
  have vA:k<o.cases.length:=cA hc;have Jl:1≤o.cases.length:=by omega
  obtain⟨n0,n1,n2⟩:=fP w (X0.loc _ fD).1 k c hc;have Vb:nb<w.heap.size:=(dh (X0.loc _ fD).1).1;have jc:=ag (X0.alloc (eD o (some ⟨nb,0,none⟩) cc));have HX:=ag (X0.vn (eD o (some ⟨nb,0,none⟩) cc) (.cells #[I 0,I 0,I 0,B false,I 0] 44));have E8:=ag (X0.Ql (eD o (some ⟨nb,0,none⟩) cc));have xW:=ag X0.sizeLe;obtain⟨oR,HH,ie,H1,H2⟩:=jW hx hi aG h1 h2;rw[hk]at HH;obtain⟨cs,ch,cv⟩:=c;simp only at hs bO n0 n1 n2;subst hs;clear X0 aG hx hi fD fP hc h1 h2;subst hk;unfold bR;go_enter func113,ntmps113;go_upto_region 11 with(first|(go_at_call 170;refine(yd (af:=af) (F:=F) (m0:=m0) (w0:=w0) (m:=m) (L:=(w.heap.size,eD o (some ⟨nb,0,none⟩) cc)::L) (S:=S) ?_ oR.out HH.out).mono ?_;exact jc.out.aI;rintro e w1 ⟨rfl,nq,rfl⟩)|(go_at_call 171;refine(sx (af:=af) (F:=F) (m0:=m0) (w0:=w0) (m:=m) (L:=((w.heap.size+1,.cells #[I 0,I 0,I 0,B false,I 0] 44)::(w.heap.size,eD o (some ⟨nb,0,none⟩) cc)::L)) (S:=S) ?_ ie.out g bO H1.out).mono ?_;exact HX.out.aI;rintro e wN ⟨rfl,X⟩;obtain⟨r0,r1,r2,r3,r4⟩:=qT X.head;have Hc:=aM X.head 0;have Hd:=aM X.head 1;have Au:=aM X.head 2;have He:=aM X.head 3;have Hf:=aM X.head 4;obtain⟨q0,q1,q2,q3,q4,q5⟩:=jD X.snd;have HY:=ag X;clear X)|(go_at_call 172;refine(sy (af:=af) (F:=F) (m0:=m0) (w0:=w0) (m:=m) (L:=((w.heap.size+1,.cells #[I 0,I 0,I 0,B false,I 0] 44)::(w.heap.size,eD o (some ⟨nb,0,none⟩) cc)::L)) (S:=S) ?_ ie.out g bO H1.out).mono ?_;exact HX.out.aI;rintro e wN ⟨rfl,X⟩;obtain⟨r0,r1,r2,r3,r4⟩:=qT X.head;have Hc:=aM X.head 0;have Hd:=aM X.head 1;have Au:=aM X.head 2;have He:=aM X.head 3;have Hf:=aM X.head 4;obtain⟨q0,q1,q2,q3,q4,q5⟩:=jD X.snd;have HY:=ag X;clear X))
  have Y5:=HY.out.xF (Nat.le_succ_of_le xW.out) E8.out (I r.aJ) (I r.case) (I r.v) (B r.ok) (I r.n);obtain⟨w5,Ha,X⟩:∃w5,w5=_∧AB af F m0 w0 m w5 S1 _:=⟨_,rfl,Y5⟩;rw[←Ha];have HY6:=ag (X.case (Nat.le_succ_of_le xW.out) E8.out (I k));clear Ha r0 r1 r2 r3 r4 Hc Hd Au He Hf q0 q1 q2 q3 q4 q5;obtain⟨r0,r1,r2,r3,r4⟩:=qT X.head;have Hc:=aM X.head 0;have Hd:=aM X.head 1;have Au:=aM X.head 2;have He:=aM X.head 3;have Hf:=aM X.head 4;obtain⟨q0,q1,q2,q3,q4,q5⟩:=jD X.snd;clear X;clear Y5;go_wp2_with (go_at_call 173;refine(TL (af:=af) (F:=F) (m0:=m0) (w0:=w0) (m:=m) (L:=((w.heap.size+1,.cells #[I r.aJ,I k,I r.v,B r.ok,I r.n] 44)::(w.heap.size,eD o (some ⟨nb,0,none⟩) cc)::L)) (S:=S1) ?_ H2.out {r with case:=k}).mono ?_;exact HY6.out.aI;rintro e wM ⟨rfl,X⟩;have HZ:=ag X;clear X);go_end0;exact⟨rfl,_,HZ.out.less fun p hp=>nO _ (nO _ hp)⟩
theorem Cm(X0:AB af F m0 w0 m w S L)(aG:Good S)(g:Nat)(x:bI)(hx:S.gs[g]?=some x)(i:Int)(hi:dU x=some i)(o:cu)(dj:o.cases.length≤1000)(nb:Nat)(ob:Obj)(fD:(nb,ob)∈L)(fP:CB nb ob o.cases)(cc:Nat)(k:Nat)(hk:i=k)(c:Case)(hc:o.cases[k]?=some c)(bO:eX c.ch)(S1:Wd)(r:nP)(h1:(c.cF=true∧j4 S g c=some (S1,r,false,false))∨(c.cF=false∧j5 S g c=some (S1,r,false,false)))(S':Wd)(h2:j3 S1 g o=some S'):Calls prog 113 #[bR F,I g,.agg #[I o.ai,I o.ch,I o.n,I o.v,.slice (some ⟨nb,0,none⟩) o.cases.length cc,B o.dG]] w (ee fun w'=>∃m',AB af F m0 w0 m' w' S' L):=by
 rcases h1 with⟨hs,h1⟩|⟨hs,h1⟩
 all_goals
  have vA:k<o.cases.length:=cA hc;have Jl:1≤o.cases.length:=by omega
  obtain⟨n0,n1,n2⟩:=fP w (X0.loc _ fD).1 k c hc;have Vb:nb<w.heap.size:=(dh (X0.loc _ fD).1).1;have jc:=ag (X0.alloc (eD o (some ⟨nb,0,none⟩) cc));have HX:=ag (X0.vn (eD o (some ⟨nb,0,none⟩) cc) (.cells #[I 0,I 0,I 0,B false,I 0] 44));have E8:=ag (X0.Ql (eD o (some ⟨nb,0,none⟩) cc));have xW:=ag X0.sizeLe;obtain⟨oR,HH,ie,H1,H2⟩:=jW hx hi aG h1 h2;rw[hk]at HH;obtain⟨cs,ch,cv⟩:=c;simp only at hs bO n0 n1 n2;subst hs;clear X0 aG hx hi fD fP hc h1 h2;subst hk;unfold bR;go_enter func113,ntmps113;go_wp2_with (first|(go_at_call 170;refine(yd (af:=af) (F:=F) (m0:=m0) (w0:=w0) (m:=m) (L:=(w.heap.size,eD o (some ⟨nb,0,none⟩) cc)::L) (S:=S) ?_ oR.out HH.out).mono ?_;exact jc.out.aI;rintro e w1 ⟨rfl,nq,rfl⟩)|(go_at_call 171;refine(sx (af:=af) (F:=F) (m0:=m0) (w0:=w0) (m:=m) (L:=((w.heap.size+1,.cells #[I 0,I 0,I 0,B false,I 0] 44)::(w.heap.size,eD o (some ⟨nb,0,none⟩) cc)::L)) (S:=S) ?_ ie.out g bO H1.out).mono ?_;exact HX.out.aI;rintro e wN ⟨rfl,X⟩;obtain⟨r0,r1,r2,r3,r4⟩:=qT X.head;have Hc:=aM X.head 0;have Hd:=aM X.head 1;have Au:=aM X.head 2;have He:=aM X.head 3;have Hf:=aM X.head 4;obtain⟨q0,q1,q2,q3,q4,q5⟩:=jD X.snd;have HY:=ag X;clear X)|(go_at_call 172;refine(sy (af:=af) (F:=F) (m0:=m0) (w0:=w0) (m:=m) (L:=((w.heap.size+1,.cells #[I 0,I 0,I 0,B false,I 0] 44)::(w.heap.size,eD o (some ⟨nb,0,none⟩) cc)::L)) (S:=S) ?_ ie.out g bO H1.out).mono ?_;exact HX.out.aI;rintro e wN ⟨rfl,X⟩;obtain⟨r0,r1,r2,r3,r4⟩:=qT X.head;have Hc:=aM X.head 0;have Hd:=aM X.head 1;have Au:=aM X.head 2;have He:=aM X.head 3;have Hf:=aM X.head 4;obtain⟨q0,q1,q2,q3,q4,q5⟩:=jD X.snd;have HY:=ag X;clear X));have Y5:=HY.out.xF (Nat.le_succ_of_le xW.out) E8.out (I r.aJ) (I r.case) (I r.v) (B r.ok) (I r.n);have HY5:=ag Y5;clear Y5;go_wp2_with (go_at_call 174;refine(Gj (af:=af) (F:=F) (m0:=m0) (w0:=w0) (m:=m) (L:=((w.heap.size+1,.cells #[I r.aJ,I r.case,I r.v,B r.ok,I r.n] 44)::(w.heap.size,eD o (some ⟨nb,0,none⟩) cc)::L)) (S:=S1) ?_ g dj Jl (some ⟨nb,0,none⟩) cc H2.out).mono ?_;exact HY5.out.aI;rintro e wM ⟨rfl,mN,X⟩;have HZ:=ag X;clear X);go_end0;exact⟨rfl,_,HZ.out.less fun p hp=>nO _ (nO _ hp)⟩
theorem qW{o:cu}{i:Int}{c:Case}(h:iF o i=some c):∃k:Nat,i=k∧o.cases[k]?=some c∧ -1000000000≤c.ch∧c.ch≤1000000000:=by
 unfold iF at h;simp only[bW,cI]at h;obtain⟨c2,h1,h2⟩:=h;obtain⟨k,hk,_,hc⟩:=mO h1;by_cases ho:kJ c2.ch=true
 ·rw[aF ho]at h2
  cases h2;exact⟨k,hk,hc,Ka.1 ho⟩
 ·rw[aE ho]at h2;cases h2
theorem TM(X0:AB af F m0 w0 m w S L)(aG:Good S)(g:Nat)(o:cu)(dj:o.cases.length≤1000)(nb:Nat)(ob:Obj)(fD:(nb,ob)∈L)(fP:CB nb ob o.cases)(cc:Nat)(S':Wd)(hm:uE S g o=some S'):Calls prog 113 #[.pointer (some ⟨F.al,0,none⟩),I g,.agg #[I o.ai,I o.ch,I o.n,I o.v,.slice (some ⟨nb,0,none⟩) o.cases.length cc,B o.dG]] w (ee fun w'=>∃m',AB af F m0 w0 m' w' S' L):=by
 unfold uE at hm;simp only[bW,cI]at hm;obtain⟨x,hx,i,hi,c,hc,hm⟩:=hm;obtain⟨k,hk,BG,bO⟩:=qW hc
 cases hs:c.cF with
 |true=>
  rw[hs]at hm;simp only[dt,cI]at hm;obtain⟨⟨S1,r,dn,tk⟩,h1,hm⟩:=hm
  cases tk with
  |true=>
   simp only[dt]at hm;exact zN X0 aG g x hx i hi o dj nb ob fD fP cc k hk c BG bO S1 r dn (.inl ⟨hs,h1⟩) S' hm
  |false=>
   simp only[nW,dF]at hm
   cases dn with
   |true=>
    simp only[dt]at hm;unfold te fL at hm
    cases eE:S1.gs[g]? with
    |none=>rw[eE]at hm;cases hm
    |some x1=>
     rw[eE]at hm
     cases hm;exact Cl X0 aG g x hx i hi o dj nb ob fD fP cc k hk c BG bO S1 r (.inl ⟨hs,h1⟩) x1 eE
   |false=>
    simp only[nW,dF]at hm;exact Cm X0 aG g x hx i hi o dj nb ob fD fP cc k hk c BG bO S1 r (.inl ⟨hs,h1⟩) S' hm
 |false=>
  rw[hs]at hm;simp only[nW,dF,cI]at hm;obtain⟨⟨S1,r,dn,tk⟩,h1,hm⟩:=hm
  cases tk with
  |true=>
   simp only[dt]at hm;exact zN X0 aG g x hx i hi o dj nb ob fD fP cc k hk c BG bO S1 r dn (.inr ⟨hs,h1⟩) S' hm
  |false=>
   simp only[nW,dF]at hm
   cases dn with
   |true=>
    simp only[dt]at hm;unfold te fL at hm
    cases eE:S1.gs[g]? with
    |none=>rw[eE]at hm;cases hm
    |some x1=>
     rw[eE]at hm
     cases hm;exact Cl X0 aG g x hx i hi o dj nb ob fD fP cc k hk c BG bO S1 r (.inr ⟨hs,h1⟩) x1 eE
   |false=>
    simp only[nW,dF]at hm;exact Cm X0 aG g x hx i hi o dj nb ob fD fP cc k hk c BG bO S1 r (.inr ⟨hs,h1⟩) S' hm
theorem MA(X:AB af F m0 w0 m w S L)(aG:Good S)(g:Nat){ch:Int}(bO:eX ch){S':Wd}(hm:jI S g ch=some S'):Calls prog 163 #[bR F,I g,I ch] w (ee fun w'=>AB af F m0 w0 m w' S' L):=
 (FK X.bj aG g ch bO S' hm).mono fun e w' ⟨h1,h2⟩=>⟨h1,X.av h2⟩
theorem Qm(X:AB af F m0 w0 m w S L)(aG:Good S)(g:Nat)(hg:g<S.gs.length){o:cu}(bO:eX o.ch)(ca:Option Addr)(cn cc:Nat){S':Wd}(hm:jZ S g o=some S'):Calls prog 166 #[bR F,I g,.agg #[I o.ai,I o.ch,I o.n,I o.v,.slice ca cn cc,B o.dG]] w (ee fun w'=>AB af F m0 w0 m w' S' L):=
 (IE X.bj aG g hg o bO ca cn cc S' hm).mono fun e w' ⟨h1,h2⟩=>⟨h1,X.av h2⟩
theorem Gk(X:AB af F m0 w0 m w S L)(aG:Good S){ch:Int}(bO:eX ch){s:Nat}{S2:Wd}{v:Int}(hm:ik S ch s=some (S2,v)):Calls prog 165 #[bR F,I ch,I s] w (eL (I v) fun w'=>AB af F m0 w0 m w' S2 L):=
 (IH X.bj aG ch bO s S2 v hm).mono fun e w' ⟨h1,h2⟩=>⟨h1,X.av h2⟩
theorem xk(X:AB af F m0 w0 m w S L){ch:Int}(bO:eX ch):Calls prog 164 #[I ch] w (eL (I (2*ch-1)) fun w'=>AB af F m0 w0 m w' S L):=
 (tp ch bO w).mono fun e w' ⟨h1,h2⟩=>⟨h1,h2▸X⟩
theorem Good.aw(h:Good S)(q:bf):Good {S with aw:=q}:=⟨h.ar,h.aC,h.au,h.wakes,h.nA⟩
theorem Good.fZ(h:Good S){x:Int}{S':Wd}(hq:fZ S x=some S'):Good S':=by
 obtain⟨q,b,_,rfl⟩:=mF hq;exact h.aw q
theorem MB(R:bz af F w m S)(aG:Good S)(g:Nat)(x:bI)(hx:S.gs[g]?=some x)(o:cu)(bO:eX o.ch)(ca:Option Addr)(cn cc:Nat)(hp:x.ae=5)(S':Wd)(hm:jI S g o.ch=some S'):Calls prog 107 #[bR F,I g,.agg #[I o.ai,I o.ch,I o.n,I o.v,.slice ca cn cc,B o.dG]] w (ee (To af F m w S')):=by
 have eM:=cA hx;have c3:=R.eu;have c8:=R.dR;obtain⟨aU,cm,aY,aZ⟩:=R.pB;have g2:=R.g hx 2 _ rfl;have g9:=R.g hx 9 _ rfl;rw[hp]at g2;have HX:=ag ((AB.iU R).alloc (.cells #[I o.ai,I o.ch,I o.n,I o.v,.slice ca cn cc,B o.dG] 49));obtain⟨HG,ie⟩:=dA hx aG;have HM:=ag hm;clear R hx hp aG hm;unfold bR;go_enter func107,ntmps107;go_wp2_with (go_at_call 163;refine(MA (af:=af) (F:=F) (m0:=m) (w0:=w) (m:=m) (L:=[(w.heap.size,.cells #[I o.ai,I o.ch,I o.n,I o.v,.slice ca cn cc,B o.dG] 49)]) (S:=S) ?_ ie.out g bO HM.out).mono ?_;exact HX.out;rintro e wN ⟨rfl,X⟩;have RN:=X.bj;have HZ:=ag X;clear X RN);go_end0;exact⟨rfl,ss HZ.out⟩
theorem MC(R:bz af F w m S)(aG:Good S)(g:Nat)(x:bI)(hx:S.gs[g]?=some x)(o:cu)(bO:eX o.ch)(ca:Option Addr)(cn cc:Nat)(hp:x.ae=7)(S':Wd)(hm:rD S g 6 8=some S'):Calls prog 107 #[bR F,I g,.agg #[I o.ai,I o.ch,I o.n,I o.v,.slice ca cn cc,B o.dG]] w (ee (To af F m w S')):=by
 have eM:=cA hx;have c3:=R.eu;have c8:=R.dR;obtain⟨aU,cm,aY,aZ⟩:=R.pB;have g2:=R.g hx 2 _ rfl;have g9:=R.g hx 9 _ rfl;rw[hp]at g2;have HX:=ag ((AB.iU R).alloc (.cells #[I o.ai,I o.ch,I o.n,I o.v,.slice ca cn cc,B o.dG] 49));obtain⟨HG,ie⟩:=dA hx aG;have HM:=ag hm;clear R hx hp aG hm;unfold bR;go_enter func107,ntmps107;go_wp2_with (go_at_call 99;refine(PS (af:=af) (F:=F) (m0:=m) (w0:=w) (m:=m) (L:=[(w.heap.size,.cells #[I o.ai,I o.ch,I o.n,I o.v,.slice ca cn cc,B o.dG] 49)]) (S:=S) ?_ HM.out).mono ?_;exact HX.out;rintro e wN ⟨rfl,X⟩;have RN:=X.bj;have HZ:=ag X;clear X RN);go_end0;exact⟨rfl,ss HZ.out⟩
theorem MD(R:bz af F w m S)(aG:Good S)(g:Nat)(x:bI)(hx:S.gs[g]?=some x)(o:cu)(bO:eX o.ch)(ca:Option Addr)(cn cc:Nat)(hp:x.ae=9)(S':Wd)(hm:jZ S g o=some S'):Calls prog 107 #[bR F,I g,.agg #[I o.ai,I o.ch,I o.n,I o.v,.slice ca cn cc,B o.dG]] w (ee (To af F m w S')):=by
 have eM:=cA hx;have c3:=R.eu;have c8:=R.dR;obtain⟨aU,cm,aY,aZ⟩:=R.pB;have g2:=R.g hx 2 _ rfl;have g9:=R.g hx 9 _ rfl;rw[hp]at g2;have HX:=ag ((AB.iU R).alloc (.cells #[I o.ai,I o.ch,I o.n,I o.v,.slice ca cn cc,B o.dG] 49));obtain⟨HG,ie⟩:=dA hx aG;have HM:=ag hm;clear R hx hp aG hm;unfold bR;go_enter func107,ntmps107;go_wp2_with (go_at_call 166;refine(Qm (af:=af) (F:=F) (m0:=m) (w0:=w) (m:=m) (L:=[(w.heap.size,.cells #[I o.ai,I o.ch,I o.n,I o.v,.slice ca cn cc,B o.dG] 49)]) (S:=S) ?_ ie.out g eM bO ca cn cc HM.out).mono ?_;exact HX.out;rintro e wN ⟨rfl,X⟩;have RN:=X.bj;have HZ:=ag X;clear X RN);go_end0;exact⟨rfl,ss HZ.out⟩
theorem Jm(R:bz af F w m S)(aG:Good S)(g:Nat)(x:bI)(hx:S.gs[g]?=some x)(o:cu)(bO:eX o.ch)(ca:Option Addr)(cn cc:Nat)(hp:x.ae=6)(S':Wd)(hm:Mach.take S g (2*o.ch-1) 7 8=some (S',true)):Calls prog 107 #[bR F,I g,.agg #[I o.ai,I o.ch,I o.n,I o.v,.slice ca cn cc,B o.dG]] w (ee (To af F m w S')):=by
 have eM:=cA hx;have c3:=R.eu;have c8:=R.dR;obtain⟨aU,cm,aY,aZ⟩:=R.pB;have g2:=R.g hx 2 _ rfl;have g9:=R.g hx 9 _ rfl;rw[hp]at g2;have HX:=ag ((AB.iU R).alloc (.cells #[I o.ai,I o.ch,I o.n,I o.v,.slice ca cn cc,B o.dG] 49));obtain⟨HG,ie⟩:=dA hx aG;have HM:=ag hm;clear R hx hp aG hm;unfold bR;go_enter func107,ntmps107;go_wp2_with (first|(go_at_call 164;refine(xk (af:=af) (F:=F) (m0:=m) (w0:=w) (m:=m) (L:=[(w.heap.size,.cells #[I o.ai,I o.ch,I o.n,I o.v,.slice ca cn cc,B o.dG] 49)]) (S:=S) ?_ bO).mono ?_;exact HX.out;rintro e wN ⟨rfl,X⟩;have RN:=X.bj;have HY:=ag X;clear X RN)|(go_at_call 96;refine(ot (af:=af) (F:=F) (m0:=m) (w0:=w) (m:=m) (L:=[(w.heap.size,.cells #[I o.ai,I o.ch,I o.n,I o.v,.slice ca cn cc,B o.dG] 49)]) (S:=S) ?_ HM.out).mono ?_;exact HY.out;rintro e wN ⟨rfl,X⟩;have RN:=X.bj;have HZ:=ag X;clear X RN));go_end0;exact⟨rfl,ss HZ.out⟩
theorem Jn(R:bz af F w m S)(aG:Good S)(g:Nat)(x:bI)(hx:S.gs[g]?=some x)(o:cu)(bO:eX o.ch)(ca:Option Addr)(cn cc:Nat)(hp:x.ae=6)(S2:Wd)(x2:bI)(hm:Mach.take S g (2*o.ch-1) 7 8=some (S2,false))(kt:S2.gs[g]?=some x2):Calls prog 107 #[bR F,I g,.agg #[I o.ai,I o.ch,I o.n,I o.v,.slice ca cn cc,B o.dG]] w (ee fun w'=>To af F m w (S2.ay g {x2 with ae:=9}) w'):=by
 have eM:=cA hx;have c3:=R.eu;have c8:=R.dR;obtain⟨aU,cm,aY,aZ⟩:=R.pB;have g2:=R.g hx 2 _ rfl;have g9:=R.g hx 9 _ rfl;rw[hp]at g2;have HX:=ag ((AB.iU R).alloc (.cells #[I o.ai,I o.ch,I o.n,I o.v,.slice ca cn cc,B o.dG] 49));obtain⟨HG,ie⟩:=dA hx aG;obtain⟨HM,nU⟩:=dA hm kt;clear R hx hp aG hm kt;unfold bR;go_enter func107,ntmps107;go_wp2_with (first|(go_at_call 164;refine(xk (af:=af) (F:=F) (m0:=m) (w0:=w) (m:=m) (L:=[(w.heap.size,.cells #[I o.ai,I o.ch,I o.n,I o.v,.slice ca cn cc,B o.dG] 49)]) (S:=S) ?_ bO).mono ?_;exact HX.out;rintro e wN ⟨rfl,X⟩;have RN:=X.bj;have HY:=ag X;clear X RN)|(go_at_call 96;refine(ot (af:=af) (F:=F) (m0:=m) (w0:=w) (m:=m) (L:=[(w.heap.size,.cells #[I o.ai,I o.ch,I o.n,I o.v,.slice ca cn cc,B o.dG] 49)]) (S:=S) ?_ HM.out).mono ?_;exact HY.out;rintro e wN ⟨rfl,X⟩;have RN:=X.bj;have p2:=RN.g nU.out 2 _ rfl;have wW:=RN.frozen RN.aB.gs (g*25+2);have A0:=X.at_;have A1:=A0.g nU.out {x2 with ae:=9} (q:=2) (v:=I 9);have HA:=ag A1;clear A1;clear A0;have HZ:=ag X;clear X RN));go_end0;exact⟨rfl,m,HA.out⟩
theorem ME(R:bz af F w m S)(aG:Good S)(g:Nat)(x:bI)(hx:S.gs[g]?=some x)(o:cu)(bO:eX o.ch)(ca:Option Addr)(cn cc:Nat)(hp:x.ae=8)(s:Nat)(hs:x.br=s)(S2 S3 S4:Wd)(v:Int)(x4:bI)(h2:fZ S s=some S2)(h3:ik S2 o.ch s=some (S3,v))(h4:Mach.serve S3 g s true=some S4)(vB:S4.gs[g]?=some x4):Calls prog 107 #[bR F,I g,.agg #[I o.ai,I o.ch,I o.n,I o.v,.slice ca cn cc,B o.dG]] w (ee fun w'=>To af F m w (S4.ay g {x4 with res:={aJ:=1,case:= -1,v:=v,ok:=true},ae:=16}) w'):=by
 have eM:=cA hx;have c3:=R.eu;have c8:=R.dR;obtain⟨aU,cm,aY,aZ⟩:=R.pB;have g2:=R.g hx 2 _ rfl;have g9:=R.g hx 9 _ rfl;rw[hp]at g2;have HX:=ag ((AB.iU R).alloc (.cells #[I o.ai,I o.ch,I o.n,I o.v,.slice ca cn cc,B o.dG] 49));obtain⟨HG,ie⟩:=dA hx aG;rw[hs]at g9;obtain⟨H2,H3,H4,Vc⟩:=ia h2 h3 h4 vB;have au2:=ag (aG.fZ h2);clear R hx hp aG h2 h3 h4 vB hs;unfold bR;go_enter func107,ntmps107;go_wp2_with (first|(go_at_call 150;refine(u7 (af:=af) (F:=F) (m0:=m) (w0:=w) (m:=m) (L:=[(w.heap.size,.cells #[I o.ai,I o.ch,I o.n,I o.v,.slice ca cn cc,B o.dG] 49)]) (S:=S) ?_ H2.out).mono ?_;exact HX.out;rintro e wN ⟨⟨bb,rfl⟩,X⟩;have RN:=X.bj;obtain⟨q0,q1,q2,q3,q4,q5⟩:=jD X.head;have tm:=ag X;clear X RN)|(go_at_call 165;refine(Gk (af:=af) (F:=F) (m0:=m) (w0:=w) (m:=m) (L:=[(w.heap.size,.cells #[I o.ai,I o.ch,I o.n,I o.v,.slice ca cn cc,B o.dG] 49)]) (S:=S2) ?_ au2.out bO H3.out).mono ?_;exact tm.out;rintro e wN ⟨rfl,X⟩;have RN:=X.bj;have oh:=ag X;clear X RN)|(go_at_call 152;refine(vj (af:=af) (F:=F) (m0:=m) (w0:=w) (m:=m) (L:=[(w.heap.size,.cells #[I o.ai,I o.ch,I o.n,I o.v,.slice ca cn cc,B o.dG] 49)]) (S:=S3) ?_ H4.out).mono ?_;exact oh.out;rintro e wN ⟨rfl,mS,X⟩;have RN:=X.bj;have p2:=RN.g Vc.out 2 _ rfl;have wW:=RN.frozen RN.aB.gs (g*25+2);have Ip:=RN.g Vc.out 15 _ rfl;have Dm:=RN.frozen RN.aB.gs (g*25+15);have UZ:=RN.g Vc.out 16 _ rfl;have Fz:=RN.frozen RN.aB.gs (g*25+16);have U0:=RN.g Vc.out 17 _ rfl;have FA:=RN.frozen RN.aB.gs (g*25+17);have FB:=RN.g Vc.out 18 _ rfl;have FC:=RN.frozen RN.aB.gs (g*25+18);have J1:=RN.g Vc.out 19 _ rfl;have FD:=RN.frozen RN.aB.gs (g*25+19);have A0:=X.at_;have A1:=A0.res Vc.out {aJ:=1,case:= -1,v:=v,ok:=true};have A2:=A1.g (az Vc.out) {x4 with res:={aJ:=1,case:= -1,v:=v,ok:=true},ae:=16} (q:=2) (v:=I 16);rw[aA]at A2;have HA:=ag A2;clear A1 A2;clear A0;have HZ:=ag X;clear X RN));go_end0;exact⟨rfl,mS,HA.out⟩
theorem DV(R:bz af F w m S)(aG:Good S)(g:Nat)(x:bI)(hx:S.gs[g]?=some x)(o:cu)(bO:eX o.ch)(ca:Option Addr)(cn cc:Nat)(hp:x.ae=5∨x.ae=6∨x.ae=7∨x.ae=8∨x.ae=9)(S':Wd)(hm:iE S g o=some S'):Calls prog 107 #[.pointer (some ⟨F.al,0,none⟩),I g,.agg #[I o.ai,I o.ch,I o.n,I o.v,.slice ca cn cc,B o.dG]] w (ee (To af F m w S')):=by
 unfold iE at hm;simp only[bW,hx,eN]at hm;by_cases h5:x.ae=5
 ·rw[aF h5]at hm;exact MB R aG g x hx o bO ca cn cc h5 _ hm
 rw[aE h5]at hm;by_cases h6:x.ae=6
 ·rw[aF h6]at hm;simp only[cI]at hm;obtain⟨⟨S2,ok⟩,h2,hm⟩:=hm
  cases ok with
  |true=>
   simp only[dt,oZ]at hm;subst hm;exact Jm R aG g x hx o bO ca cn cc h6 _ h2
  |false=>
   simp only[nW,dF]at hm;obtain⟨x2,kt,rfl⟩:=dr hm;exact Jn R aG g x hx o bO ca cn cc h6 _ _ h2 kt
 rw[aE h6]at hm;by_cases h7:x.ae=7
 ·rw[aF h7]at hm;exact MC R aG g x hx o bO ca cn cc h7 _ hm
 rw[aE h7]at hm;by_cases h8:x.ae=8
 ·rw[aF h8]at hm;unfold pZ fL at hm;simp only[bW,hx,eN,cI]at hm;obtain⟨s,hs,S2,h2,⟨S3,v⟩,h3,S4,h4,hm⟩:=hm
  cases vB:S4.gs[g]? with
  |none=>simp[vB]at hm
  |some x4=>
   simp only[vB,km,oZ]at hm;subst hm;exact ME R aG g x hx o bO ca cn cc h8 s (du hs) S2 S3 S4 v x4 h2 h3 h4 vB
 rw[aE h8]at hm;exact MD R aG g x hx o bO ca cn cc (by omega) _ hm
theorem AB.ye(X:AB af F m0 w0 m w S L)(o:Obj){n:Nat}(h:w.heap.size=n):AB af F m0 w0 m (w.alloc o) S ((n,o)::L):=h▸X.alloc o
theorem Qn(X:AB af F m0 w0 m w S L){g:Nat}{x:bI}(hx:S.gs[g]?=some x){h:Int}(hh:dU x=some h)(n:Nat):Calls prog 170 #[bR F,I g] (w.drewN n) fun e w'=>e=.returned (I h)∧∃q,w'=(w.drewN n).drewN q:=
 yd (X.aI (w':=w.drewN n) rfl rfl rfl rfl) hx hh
theorem pt(X:AB af F m0 w0 m w S L){g:Nat}{x:bI}(hx:S.gs[g]?=some x)(p:Int):Calls prog 175 #[bR F,I g,I p] w (ee fun w'=>AB af F m0 w0 m w' (S.ay g (eZ x p)) L):=
 (tj X.bj g x hx p).mono fun e w' ⟨h1,h2⟩=>⟨h1,X.av h2⟩
theorem AB.Qo(X:AB af F m0 w0 m w S L):∀p∈L,p.1≠w.heap.size:=by
 intro p hp;have:=(dh (X.loc p hp).1).1;omega
theorem AB.val{b:Nat}{a0 a1 a2 a3 a4:Value}(X:AB af F m0 w0 m w S ((b,.cells #[a0,a1,a2,a3,a4] 44)::L))(hb:w0.heap.size≤b)(hL:∀p∈L,p.1≠b)(v:Value):AB af F m0 w0 m (w.setCell ⟨b,2,none⟩ v) S ((b,.cells #[a0,a1,v,a3,a4] 44)::L):=by
 refine⟨X.at_.other (X.loc _ (rn ..)).2 hb _,fun p hp=>?_⟩;rcases iL.1 hp with h|h
 ·subst h;exact⟨heap_setCell_same _ b 2 _ _ v X.head,(X.loc (b,.cells #[a0,a1,a2,a3,a4] 44) (rn ..)).2⟩
 ·refine⟨?_,(X.loc p (nO _ h)).2⟩;rw[fQ _ _ _ _ (hL p h)];exact(X.loc p (nO _ h)).1
theorem Jo(X0:AB af F m0 w0 m w S L)(g:Nat)(x:bI)(hx:S.gs[g]?=some x)(i:Int)(hi:dU x=some i)(o:cu)(nb:Nat)(ob:Obj)(fD:(nb,ob)∈L)(fP:CB nb ob o.cases)(cc:Nat)(k:Nat)(hk:i=k)(c:Case)(hc:o.cases[k]?=some c)(hs:c.cF=true)(s:Nat)(hh:x.br=s)(S1:Wd)(h1:fZ S s=some S1)(sd:gn)(eo:S1.ah[s]?=some sd)(S3:Wd)(h3:Mach.serve (S1.cJ s {sd with v:=c.v}) g s true=some S3)(x3:bI)(nM:S3.gs[g]?=some x3):Calls prog 115 #[bR F,I g,.agg #[I o.ai,I o.ch,I o.n,I o.v,.slice (some ⟨nb,0,none⟩) o.cases.length cc,B o.dG]] w (ee fun w'=>∃m',AB af F m0 w0 m' w' (S3.ay g (eZ {x3 with res:={aJ:=1,case:=k,ok:=true,v:=0}} 30)) L):=by
 have vA:k<o.cases.length:=cA hc;have eM:=cA hx;obtain⟨n0,n1,n2⟩:=fP w (X0.loc _ fD).1 k c hc;have Vb:nb<w.heap.size:=(dh (X0.loc _ fD).1).1;have R:=X0.bj;have c3:=R.eu;have c8:=R.dR;have g9:=R.g hx 9 _ rfl;rw[hh]at g9;obtain⟨aU,cm,aY,aZ⟩:=R.pB;obtain⟨cs,ch,cv⟩:=c;simp only at hs n0 n1 n2 h3;subst hs;subst hk;have jc:=ag (X0.alloc (eD o (some ⟨nb,0,none⟩) cc));have HX:=ag (X0.vn (eD o (some ⟨nb,0,none⟩) cc) (.cells #[B true,I ch,I cv] 52));have HQ:=ag (fun n=>Qn jc.out hx hi n);have xW:=ag X0.sizeLe;obtain⟨oR,HH,H1,H3,qH,oh⟩:=mr hx hi h1 h3 eo nM;have mj:s<S1.ah.length:=cA eo;clear X0 R hx hi fD fP hc h1 h3 eo nM hh;unfold bR;go_enter func115,ntmps115;go_wp2_with fail
 go_quiet ((go_at_call 170;exact Calls.quiet_of (HQ.out _)));go_wp2_with (go_at_call 150;refine(u7 (af:=af) (F:=F) (m0:=m0) (w0:=w0) (m:=m) (S:=S) (L:=(w.heap.size+1,.cells #[B true,I ch,I cv] 52)::(w.heap.size,eD o (some ⟨nb,0,none⟩) cc)::L) ?_ H1.out).mono ?_;exact HX.out.aI;rintro e wN ⟨⟨bb,rfl⟩,X⟩;have RN:=X.bj;obtain⟨q0,q1,q2⟩:=Bd X.head;have d9:=RN.ed;have s5:=RN.s qH.out 5 _ rfl;have fs5:=RN.frozen RN.aB.ah (s*7+5);have lb1:=(dh X.head).1;have l1:=RN.lt RN.aB.al;have l2:=RN.lt RN.aB.ah;have l3:=RN.lt RN.aB.gs;have HY:=ag X;clear X RN);have Y1:=HY.out.s qH.out {sd with v:=cv} (q:=5) (v:=I cv) (by omega) rfl;have HZ:=ag (Y1.ye (n:=wN.heap.size) (.cells #[I 1,I k,I 0,B true,I 0] 44) (by simp));clear Y1;go_region
 all_goals
  go_wp2_with (go_at_call 152;refine(vj (af:=af) (F:=F) (m0:=m0) (w0:=w0) (m:=m) (S:=S1.cJ s {sd with v:=cv}) (L:=(wN.heap.size,.cells #[I 1,I k,I 0,B true,I 0] 44)::(w.heap.size+1,.cells #[B true,I ch,I cv] 52)::(w.heap.size,eD o (some ⟨nb,0,none⟩) cc)::L) ?_ H3.out).mono ?_;exact HZ.out.aI;rintro e wM ⟨rfl,mN,X⟩;have RM:=X.bj;obtain⟨r0,r1,r2,r3,r4⟩:=qT X.head;have Ip:=RM.g oh.out 15 _ rfl;have Dm:=RM.frozen RM.aB.gs (g*25+15);have UZ:=RM.g oh.out 16 _ rfl;have Fz:=RM.frozen RM.aB.gs (g*25+16);have U0:=RM.g oh.out 17 _ rfl;have FA:=RM.frozen RM.aB.gs (g*25+17);have FB:=RM.g oh.out 18 _ rfl;have FC:=RM.frozen RM.aB.gs (g*25+18);have J1:=RM.g oh.out 19 _ rfl;have FD:=RM.frozen RM.aB.gs (g*25+19);have HV:=ag (X.res oh.out {aJ:=1,case:=k,ok:=true,v:=0});clear X RM);go_wp2_with (go_at_call 175;refine(pt (af:=af) (F:=F) (m0:=m0) (w0:=w0) (m:=mN) (S:=S3.ay g {x3 with res:={aJ:=1,case:=k,ok:=true,v:=0}}) (L:=(wN.heap.size,.cells #[I 1,I k,I 0,B true,I 0] 44)::(w.heap.size+1,.cells #[B true,I ch,I cv] 52)::(w.heap.size,eD o (some ⟨nb,0,none⟩) cc)::L) ?_ (az oh.out) 30).mono ?_;exact HV.out.aI;rintro e wK ⟨rfl,X⟩;rw[aA]at X;have HW:=ag X;clear X);go_end0;exact⟨rfl,_,HW.out.less fun p hp=>nO _ (nO _ (nO _ hp))⟩
theorem Jp(X0:AB af F m0 w0 m w S L)(g:Nat)(x:bI)(hx:S.gs[g]?=some x)(i:Int)(hi:dU x=some i)(o:cu)(nb:Nat)(ob:Obj)(fD:(nb,ob)∈L)(fP:CB nb ob o.cases)(cc:Nat)(k:Nat)(hk:i=k)(c:Case)(hc:o.cases[k]?=some c)(hs:c.cF=false)(bO:eX c.ch)(s:Nat)(hh:x.br=s)(S1:Wd)(h1:fZ S s=some S1)(aG:Good S1)(S2:Wd)(v:Int)(hv:ik S1 c.ch s=some (S2,v))(S3:Wd)(h3:Mach.serve S2 g s true=some S3)(x3:bI)(nM:S3.gs[g]?=some x3):Calls prog 115 #[bR F,I g,.agg #[I o.ai,I o.ch,I o.n,I o.v,.slice (some ⟨nb,0,none⟩) o.cases.length cc,B o.dG]] w (ee fun w'=>∃m',AB af F m0 w0 m' w' (S3.ay g (eZ {x3 with res:={aJ:=1,case:=k,ok:=true,v:=v}} 30)) L):=by
 have vA:k<o.cases.length:=cA hc;have eM:=cA hx;obtain⟨n0,n1,n2⟩:=fP w (X0.loc _ fD).1 k c hc;have Vb:nb<w.heap.size:=(dh (X0.loc _ fD).1).1;have R:=X0.bj;have c3:=R.eu;have c8:=R.dR;have g9:=R.g hx 9 _ rfl;rw[hh]at g9;obtain⟨aU,cm,aY,aZ⟩:=R.pB;obtain⟨cs,ch,cv⟩:=c;simp only at hs n0 n1 n2 hv bO;subst hs;subst hk;have jc:=ag (X0.alloc (eD o (some ⟨nb,0,none⟩) cc));have HX:=ag (X0.vn (eD o (some ⟨nb,0,none⟩) cc) (.cells #[B false,I ch,I cv] 52));have HQ:=ag (fun n=>Qn jc.out hx hi n);have xW:=ag X0.sizeLe;obtain⟨oR,HH,H1,H3,HV0,ie⟩:=mr hx hi h1 h3 hv aG;have oh:=ag nM;clear X0 R hx hi fD fP hc h1 h3 hv aG nM hh;unfold bR;go_enter func115,ntmps115;go_wp2_with fail
 go_quiet ((go_at_call 170;exact Calls.quiet_of (HQ.out _)));go_wp2_with (go_at_call 150;refine(u7 (af:=af) (F:=F) (m0:=m0) (w0:=w0) (m:=m) (S:=S) (L:=(w.heap.size+1,.cells #[B false,I ch,I cv] 52)::(w.heap.size,eD o (some ⟨nb,0,none⟩) cc)::L) ?_ H1.out).mono ?_;exact HX.out.aI;rintro e wN ⟨⟨bb,rfl⟩,X⟩;have RN:=X.bj;obtain⟨q0,q1,q2⟩:=Bd X.head;have lb1:=(dh X.head).1;have l1:=RN.lt RN.aB.al;have l3:=RN.lt RN.aB.gs;have HY:=ag X;clear X RN);have HZ:=ag (HY.out.ye (n:=wN.heap.size) (.cells #[I 1,I k,I 0,B true,I 0] 44) rfl);have E8:=ag (HY.out.Qo);have HSN:Hid (w0.heap.size≤wN.heap.size):=HY.out.sizeLe;go_wp2_with (go_at_call 165;refine(Gk (af:=af) (F:=F) (m0:=m0) (w0:=w0) (m:=m) (S:=S1) (L:=(wN.heap.size,.cells #[I 1,I k,I 0,B true,I 0] 44)::(w.heap.size+1,.cells #[B false,I ch,I cv] 52)::(w.heap.size,eD o (some ⟨nb,0,none⟩) cc)::L) ?_ ie.out bO HV0.out).mono ?_;exact HZ.out.aI;rintro e wP ⟨rfl,X⟩;obtain⟨r0,r1,r2,r3,r4⟩:=qT X.head;have Au:=aM X.head 2;have HP:=ag (X.val HSN.out E8.out (I v));clear X);go_wp2_with (go_at_call 152;refine(vj (af:=af) (F:=F) (m0:=m0) (w0:=w0) (m:=m) (S:=S2) (L:=(wN.heap.size,.cells #[I 1,I k,I v,B true,I 0] 44)::(w.heap.size+1,.cells #[B false,I ch,I cv] 52)::(w.heap.size,eD o (some ⟨nb,0,none⟩) cc)::L) ?_ H3.out).mono ?_;exact HP.out.aI;rintro e wM ⟨rfl,mN,X⟩;have RM:=X.bj;obtain⟨r0,r1,r2,r3,r4⟩:=qT X.head;have Ip:=RM.g oh.out 15 _ rfl;have Dm:=RM.frozen RM.aB.gs (g*25+15);have UZ:=RM.g oh.out 16 _ rfl;have Fz:=RM.frozen RM.aB.gs (g*25+16);have U0:=RM.g oh.out 17 _ rfl;have FA:=RM.frozen RM.aB.gs (g*25+17);have FB:=RM.g oh.out 18 _ rfl;have FC:=RM.frozen RM.aB.gs (g*25+18);have J1:=RM.g oh.out 19 _ rfl;have FD:=RM.frozen RM.aB.gs (g*25+19);have HV:=ag (X.res oh.out {aJ:=1,case:=k,ok:=true,v:=v});clear X RM);go_wp2_with (go_at_call 175;refine(pt (af:=af) (F:=F) (m0:=m0) (w0:=w0) (m:=mN) (S:=S3.ay g {x3 with res:={aJ:=1,case:=k,ok:=true,v:=v}}) (L:=(wN.heap.size,.cells #[I 1,I k,I v,B true,I 0] 44)::(w.heap.size+1,.cells #[B false,I ch,I cv] 52)::(w.heap.size,eD o (some ⟨nb,0,none⟩) cc)::L) ?_ (az oh.out) 30).mono ?_;exact HV.out.aI;rintro e wK ⟨rfl,X⟩;rw[aA]at X;have HW:=ag X;clear X);go_end0;exact⟨rfl,_,HW.out.less fun p hp=>nO _ (nO _ (nO _ hp))⟩
end
end Go.Proofs.YtadifmnmfnihdaaGreat
