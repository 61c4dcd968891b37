import Derived.Test.YtadifmnmfnihdaaGreatA12
set_option linter.all false
set_option maxRecDepth 100000
set_option maxHeartbeats 40000000
namespace Go.Proofs.YtadifmnmfnihdaaGreat
open Go.RowKit Mach Go.Proofs.Tryz
section
variable{af:Nat}{F:Fx}{w w0 w':World}{m m0 m':Mem}{S S':Wd}{L:List (Nat×Obj)}
theorem KH{g:Nat}{k Ey hand:Int}{S1:Wd}(hm:Mach.take S g k Ey hand=some (S1,false)):S1=S:=by
 unfold Mach.take at hm;by_cases eK:(S.aw.first k).2=false
 ·rw[aF eK]at hm;cases hm;rfl
 rw[aE eK]at hm;simp only[bW,cI]at hm;obtain⟨s,hs,x,hx,sd,RY,hm⟩:=hm;by_cases lR:0≤sd.case
 ·rw[aF lR]at hm;cases hm
 ·rw[aE lR]at hm;simp only[cI]at hm;obtain⟨S3,h3,S4,h4,hm⟩:=hm
  cases kM:cD S4 g hand with
  |none=>rw[kM]at hm;cases hm
  |some S5=>rw[kM]at hm;cases hm
section
variable(R:bz af F w m S)(aG:Good S)
include R aG
theorem zL(g:Nat)(c:Case)(bO:eX c.ch)(j:Nat)(hc:c.ch-1=j)(h:S.aO[j]?=some false)(S':Wd)(ht:Mach.take S g (2*c.ch-2) 26 27=some (S',true)):Calls prog 171 #[bR F,I g,.agg #[B c.cF,I c.ch,I c.v]] w (eL (.tuple #[.agg #[I 0,I 0,I 0,B false,I 0],.bool false,.bool true]) fun w'=>At af F m w m w' S'):=by
 have ie:=ag aG;have HX:=ag (AB.oP (AB.iU R) (.cells #[B c.cF,I c.ch,I c.v] 52) (.cells #[I 0,I 0,I 0,B false,I 0] 44));have hs:IntKind.i64.wrap (c.ch-1)=(j:Int):=bv4
 obtain⟨cb,fP,c6,cx⟩:=R.ka h;have De:j<S.aO.length:=cA h;have aU:=R.lt R.aB.al;have EX:=R.lt fP;have HT:=ag ht;clear R h fP hc ht aG;unfold bR;go_enter func171,ntmps171;go_wp2_with fail
 go_quiet (fail);go_wp2_with (first|(go_at_call 176;refine(kh c.ch bO _).mono ?_;rintro e w1 ⟨rfl,rfl⟩)|(go_at_call 96;refine(ot HX.out.aI HT).mono ?_;rintro e wN ⟨rfl,X⟩;obtain⟨r0,r1,r2,r3,r4⟩:=qT X.head;have Hc:=aM X.head 0;have Hd:=aM X.head 1;have Au:=aM X.head 2;have He:=aM X.head 3;have Hf:=aM X.head 4;obtain⟨q0,q1,q2⟩:=Bd X.snd;have HY:=ag X;clear X));have X:=HY.out;refine bodyPost_ret (mJ rfl _ _ (w.heap.size+1) _ _ _ _ _ (0,0) rfl (kF X.head _ _ _ _ _)) rfl ?_;refine⟨rfl,At.xF ?_ (X.loc _ (rn ..)).2 (Nat.le_succ _) _ _ _ _ _⟩;exact X.at_.aI
theorem tw(b:Bool)(g:Nat)(c:Case)(bO:eX c.ch)(j:Nat)(hc:c.ch-1=j)(h:S.aO[j]?=some false)(ht:Mach.take S g (2*c.ch-2) 26 27=some (S,false))(r:Ring)(hr:S.au[j]?=some r)(hp:(r.put c.v).2=b)(z:Int)(Y6:b=true∧z=1∨b=false∧z=0):Calls prog 171 #[bR F,I g,.agg #[B c.cF,I c.ch,I c.v]] w (eL (.tuple #[.agg #[I z,I 0,I 0,B b,I 0],.bool b,.bool false]) fun w'=>At af F m w m w' (S.dZ j (r.put c.v).1)):=by
 rcases Y6 with⟨rfl,rfl⟩|⟨rfl,rfl⟩
 all_goals
  have ie:=ag aG;have HX:=ag (AB.oP (AB.iU R) (.cells #[B c.cF,I c.ch,I c.v] 52) (.cells #[I 0,I 0,I 0,B false,I 0] 44));have hs:IntKind.i64.wrap (c.ch-1)=(j:Int):=bv4
  obtain⟨cb,fP,c6,cx⟩:=R.ka h;have De:j<S.aO.length:=cA h;have aU:=R.lt R.aB.al;have EX:=R.lt fP;obtain⟨rr,rb,pL,fA,_,_⟩:=R.iJ hr;obtain⟨HR,uv⟩:=dA hr fA;have lP:=ag (aG.au j r hr);have Bg:=ag pL;have vy:j<S.au.length:=cA hr;have HT:=ag ht;have HP:=ag hp;clear R h fP hc ht aG hr pL fA hp;unfold bR;go_enter func171,ntmps171;go_wp2_with fail
  go_quiet (fail);go_wp2_with (first|(go_at_call 176;refine(kh c.ch bO _).mono ?_;rintro e w1 ⟨rfl,rfl⟩)|(go_at_call 96;refine(ot HX.out.aI HT).mono ?_;rintro e wN ⟨rfl,X⟩;obtain⟨r0,r1,r2,r3,r4⟩:=qT X.head;have Hc:=aM X.head 0;have Hd:=aM X.head 1;have Au:=aM X.head 2;have He:=aM X.head 3;have Hf:=aM X.head 4;obtain⟨q0,q1,q2⟩:=Bd X.snd;have RN:=X.bj;obtain⟨rr',Hw,zz,gr,d5,dp⟩:=RN.iJ HR;rw[Bg.out]at zz;rw[uv.out]at gr;cases zz;cases gr;have l1:=RN.lt RN.aB.al;clear RN;have HY:=ag X;clear X));refine wp_region_still_tail 11 kX kX ?_;change wpStill _ _ (World.drew _) (fun a=>wpList _ _ _ _ a (World.drew _)) _ _;simp only[sS,aW1,sU,rC];repeat still_step
  refine wpStill_nil ?_;go_wp2_with (go_at_call 153;refine(DM HY.out.aI HR uv lP c.v).mono ?_;rw[HP.out];rintro e wM ⟨rfl,X⟩;obtain⟨r0,r1,r2,r3,r4⟩:=qT X.head;have Hc:=aM X.head 0;have Hd:=aM X.head 1;have Au:=aM X.head 2;have He:=aM X.head 3;have Hf:=aM X.head 4;obtain⟨q0,q1,q2⟩:=Bd X.snd;have HZ:=ag X;clear X);have X:=HZ.out;refine bodyPost_ret (mJ rfl _ _ (w.heap.size+1) _ _ _ _ _ (0,0) rfl (kF X.head _ _ _ _ _)) rfl ?_;refine⟨rfl,At.xF ?_ (X.loc _ (rn ..)).2 (Nat.le_succ _) _ _ _ _ _⟩;exact X.at_.aI
theorem zM(g:Nat)(c:Case)(bO:eX c.ch)(S':Wd)(ht:Mach.take S g (2*c.ch-1) 26 27=some (S',true)):Calls prog 172 #[bR F,I g,.agg #[B c.cF,I c.ch,I c.v]] w (eL (.tuple #[.agg #[I 0,I 0,I 0,B false,I 0],.bool false,.bool true]) fun w'=>At af F m w m w' S'):=by
 have ie:=ag aG;have HX:=ag (AB.oP (AB.iU R) (.cells #[B c.cF,I c.ch,I c.v] 52) (.cells #[I 0,I 0,I 0,B false,I 0] 44));have HT:=ag ht;clear R ht aG;unfold bR;go_enter func172,ntmps172;go_wp2_with (first|(go_at_call 177;refine(aH9 c.ch bO _).mono ?_;rintro e w1 ⟨rfl,rfl⟩)|(go_at_call 96;refine(ot HX.out.aI HT).mono ?_;rintro e wN ⟨rfl,X⟩;obtain⟨r0,r1,r2,r3,r4⟩:=qT X.head;have Hc:=aM X.head 0;have Hd:=aM X.head 1;have Au:=aM X.head 2;have He:=aM X.head 3;have Hf:=aM X.head 4;obtain⟨q0,q1,q2⟩:=Bd X.snd;have HY:=ag X;clear X));have X:=HY.out;exact aX5
theorem Bh(g:Nat)(c:Case)(bO:eX c.ch)(j:Nat)(hc:c.ch-1=j)(ht:Mach.take S g (2*c.ch-1) 26 27=some (S,false))(r:Ring)(hr:S.au[j]?=some r)(hp:r.get.2.2=true):Calls prog 172 #[bR F,I g,.agg #[B c.cF,I c.ch,I c.v]] w (eL (.tuple #[.agg #[I 1,I 0,I r.get.2.1,B true,I 0],.bool true,.bool false]) fun w'=>At af F m w m w' (S.dZ j r.get.1)):=by
 have ie:=ag aG;have HX:=ag (AB.oP (AB.iU R) (.cells #[B c.cF,I c.ch,I c.v] 52) (.cells #[I 0,I 0,I 0,B false,I 0] 44));have hs:IntKind.i64.wrap (c.ch-1)=(j:Int):=bv4
 obtain⟨rr,rb,pL,fA,_,_⟩:=R.iJ hr;obtain⟨HR,uv⟩:=dA hr fA;have lP:=ag (aG.au j r hr);have Bg:=ag pL;have vy:j<S.au.length:=cA hr;have HT:=ag ht;have HP:=ag hp;clear R hc ht aG hr pL fA hp;unfold bR;go_enter func172,ntmps172;go_wp2_with (first|(go_at_call 177;refine(aH9 c.ch bO _).mono ?_;rintro e w1 ⟨rfl,rfl⟩)|(go_at_call 96;refine(ot HX.out.aI HT).mono ?_;rintro e wN ⟨rfl,X⟩;obtain⟨r0,r1,r2,r3,r4⟩:=qT X.head;have Hc:=aM X.head 0;have Hd:=aM X.head 1;have Au:=aM X.head 2;have He:=aM X.head 3;have Hf:=aM X.head 4;obtain⟨q0,q1,q2⟩:=Bd X.snd;have RN:=X.bj;obtain⟨rr',Hw,zz,gr,d5,dp⟩:=RN.iJ HR;rw[Bg.out]at zz;rw[uv.out]at gr;cases zz;cases gr;have l1:=RN.lt RN.aB.al;clear RN;have HY:=ag X;clear X));go_region_with (go_at_call 209;refine(zb HY.out.aI HR uv lP).mono ?_;rw[HP.out];rintro e wM ⟨rfl,X⟩;obtain⟨r0,r1,r2,r3,r4⟩:=qT X.head;have Hc:=aM X.head 0;have Hd:=aM X.head 1;have Au:=aM X.head 2;have He:=aM X.head 3;have Hf:=aM X.head 4;obtain⟨q0,q1,q2⟩:=Bd X.snd;have HZ:=ag X;clear X)
 all_goals
  go_wp2;have X:=HZ.out;exact aX5
theorem xj(b:Bool)(g:Nat)(c:Case)(bO:eX c.ch)(j:Nat)(hc:c.ch-1=j)(h:S.aO[j]?=some b)(z:Int)(Y6:b=true∧z=1∨b=false∧z=0)(ht:Mach.take S g (2*c.ch-1) 26 27=some (S,false))(r:Ring)(hr:S.au[j]?=some r)(hp:r.get.2.2=false):Calls prog 172 #[bR F,I g,.agg #[B c.cF,I c.ch,I c.v]] w (eL (.tuple #[.agg #[I z,I 0,I 0,B false,I 0],.bool b,.bool false]) fun w'=>At af F m w m w' (S.dZ j r.get.1)):=by
 rcases Y6 with⟨rfl,rfl⟩|⟨rfl,rfl⟩
 all_goals
  have ie:=ag aG;have HX:=ag (AB.oP (AB.iU R) (.cells #[B c.cF,I c.ch,I c.v] 52) (.cells #[I 0,I 0,I 0,B false,I 0] 44));have hs:IntKind.i64.wrap (c.ch-1)=(j:Int):=bv4
  obtain⟨rr,rb,pL,fA,_,_⟩:=R.iJ hr;obtain⟨HR,uv⟩:=dA hr fA;have lP:=ag (aG.au j r hr);have Bg:=ag pL;have vy:j<S.au.length:=cA hr;have HT:=ag ht;have HP:=ag hp;have tP:Hid ((S.dZ j r.get.1).aO[j]?=some _):=h;have De:j<S.aO.length:=cA h;clear R hc ht aG hr pL fA hp h;unfold bR;go_enter func172,ntmps172;go_wp2_with (first|(go_at_call 177;refine(aH9 c.ch bO _).mono ?_;rintro e w1 ⟨rfl,rfl⟩)|(go_at_call 96;refine(ot HX.out.aI HT).mono ?_;rintro e wN ⟨rfl,X⟩;obtain⟨r0,r1,r2,r3,r4⟩:=qT X.head;have Hc:=aM X.head 0;have Hd:=aM X.head 1;have Au:=aM X.head 2;have He:=aM X.head 3;have Hf:=aM X.head 4;obtain⟨q0,q1,q2⟩:=Bd X.snd;have RN:=X.bj;obtain⟨rr',Hw,zz,gr,d5,dp⟩:=RN.iJ HR;rw[Bg.out]at zz;rw[uv.out]at gr;cases zz;cases gr;have l1:=RN.lt RN.aB.al;clear RN;have HY:=ag X;clear X));go_region_with (go_at_call 209;refine(zb HY.out.aI HR uv lP).mono ?_;rw[HP.out];rintro e wM ⟨rfl,X⟩;obtain⟨r0,r1,r2,r3,r4⟩:=qT X.head;have Hc:=aM X.head 0;have Hd:=aM X.head 1;have Au:=aM X.head 2;have He:=aM X.head 3;have Hf:=aM X.head 4;obtain⟨q0,q1,q2⟩:=Bd X.snd;have RN:=X.bj;obtain⟨cb,fP,c6,cx⟩:=RN.ka tP;have l1:=RN.lt RN.aB.al;have l2:=RN.lt fP;rw[show(S.dZ j r.get.1).aO.length=S.aO.length from rfl]at c6;clear RN fP;have HZ:=ag X;clear X)
  all_goals
   go_wp2_with fail
   go_quiet (fail);go_wp2;have X:=HZ.out;exact aX5
end
end
end Go.Proofs.YtadifmnmfnihdaaGreat
