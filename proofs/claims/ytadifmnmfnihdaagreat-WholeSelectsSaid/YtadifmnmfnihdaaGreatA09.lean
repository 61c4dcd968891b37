import Derived.Test.YtadifmnmfnihdaaGreatA00
set_option linter.all false
set_option maxRecDepth 100000
set_option maxHeartbeats 40000000
namespace Go.Proofs.YtadifmnmfnihdaaGreat
open Go.RowKit Mach Go.Proofs.Tryz
section
variable{af:Nat}{F:Fx}{w w0:World}{m m0:Mem}{S:Wd}
theorem Fg{w2 W3 w3:World}{g gg cap:Nat}{z:Int}{x:bI}{v:Value}{o:Obj}{S2:Wd}(A:At af F m0 w0 m w2 S2)(hx:S2.gs[g]?=some x)(hW:W3=(w2.alloc o).drew)(jz:v.ownBlock=m.aV (.wakes g))(ho:w3.ownsRow af 3 1 (.slice (some ⟨gg,0,none⟩) (x.wakes.length+1) cap) (x.wakes.length+1) (x.wakes.map I++[I z]))(hg:W3.grownBy w3 v.ownBlock)(hw:v.ownBlock=some gg∨W3.heap.size≤gg):To af F m0 w0 (S2.ay g {x with wakes:=x.wakes++[z],br:= -1}) ((w3.setCell ⟨F.gs,g*25+23,none⟩ (.slice (some ⟨gg,0,none⟩) (x.wakes.length+1) cap)).setCell ⟨F.gs,g*25+9,none⟩ (I (-1))):=by
 subst hW;rw[jz]at hg hw;have A3:=(A.alloc o).drew;have hl:(x.wakes++[z]).length=x.wakes.length+1:=by simp
 have hm:(x.wakes++[z]).map I=x.wakes.map I++[I z]:=by simp
 have A4:=A3.EC (j:=g) (x:=x) (l:=x.wakes++[z]) (g:=gg) (c:=cap) hx hg (by rw[hl,hm];exact ho) hw;have A5:=A4.g (az hx) {x with wakes:=x.wakes++[z],br:= -1} (q:=9) (v:=I (-1));rw[aA,hl]at A5;exact⟨_,A5⟩
theorem yT(R:bz af F w m S)(g s:Nat)(done:Bool)(S':Wd)(hm:Mach.serve S g s done=some S'):Calls prog 152 #[bR F,I g,I s,.bool done] w (ee (To af F m w S')):=by
 unfold Mach.serve at hm;simp only[bW,cI]at hm;obtain⟨x,hx,sd,hs,z,hz,y,hy,hm⟩:=hm;have hz:=du hz;by_cases mh:z=g∨1000000≤x.wakes.length
 ·rw[aF mh]at hm;cases hm
 rw[aE mh]at hm
 cases hm;have Zw:z≠g:=fun e=>mh (.inl e)
 have eM:=cA hx;have Ay:z<S.gs.length:=cA hy;have mj:s<S.ah.length:=cA hs;obtain⟨i0,hi,fV,gF,gG⟩:=info_parts lC;have c3:=R.eu;have c9:=R.ed;have s1:=R.s hs 1 _ rfl;obtain⟨s6,sf6⟩:=R.ssX hs 6 _ rfl;obtain⟨g9,Rz⟩:=R.ef hx 9 _ rfl;obtain⟨g23,V4⟩:=R.ef hx 23 _ rfl;obtain⟨z7,zf7⟩:=R.ef hy 7 _ rfl;have aU:=R.lt R.aB.al;have cm:=R.lt R.aB.gs;have fO:=R.lt R.aB.ah;have aY:=R.ne R.aB.al R.aB.gs;have dx:=R.ne R.aB.al R.aB.ah;have aZ:=R.ne R.aB.gs R.aB.al;have ez:=R.ne R.aB.gs R.aB.ah;have dz:=R.ne R.aB.ah R.aB.al;have eB:=R.ne R.aB.ah R.aB.gs;obtain⟨a,c,hh⟩:=R.shape (r:=.wakes g) (n:=x.wakes.length) (by simp[aj,hx]);rw[hh]at g23;have V5:x.wakes.length<1000001:=by have:=Nat.lt_of_not_le (fun h=>mh (.inr h));omega
 have A1:=(At.refl R).s hs {sd with done:=done} (q:=6) (v:=B done) (by omega) rfl;have A2:=A1.g (x:=y) hy {y with aN:=s} (q:=7) (v:=I s);have kt:((S.cJ s {sd with done:=done}).ay z {y with aN:=s}).gs[g]?=some x:=by rw[Cw Zw];exact hx
 rw[hz]at s1 A2 kt ⊢;have tm:=ag kt;have nx:=ag A2;have o1:¬z*25+7=g*25+9:=by omega
 have o2:¬z*25+7=g*25+23:=by omega
 clear R hx hs hy hz A1 A2 kt hh mh Zw;unfold bR;go_enter func152,ntmps152;go_wp2;obtain⟨w2,nt,A2⟩:∃w2,w2=_∧At af F m w m w2 _:=⟨_,rfl,nx.out⟩;rw[←nt];clear nt nx c3 c9 s1 s6 g9 g23 z7 sf6 Rz V4 zf7 aU cm fO o1 o2;have R2:=A2.bj;have kt:=tm.out;have c3:=R2.eu;obtain⟨g9,Rz⟩:=R2.ef kt 9 _ rfl;obtain⟨g23,V4⟩:=R2.ef kt 23 _ rfl;have aU:=R2.lt R2.aB.al;have cm:=R2.lt R2.aB.gs;have aY:=R2.ne R2.aB.al R2.aB.gs;have aZ:=aY.symm;obtain⟨a,c,hh⟩:=R2.shape (r:=.wakes g) (n:=x.wakes.length) (by simp[aj,kt]);rw[hh]at g23;have hown:=R2.owns (r:=.wakes g) (p:=(3,1)) rfl (by decide) (n:=x.wakes.length) (by simp[aj,kt]);have jM:aj m ((S.cJ s {sd with g:=z,done:=done}).ay z {y with aN:=s}) (.wakes g)=x.wakes.map I:=by simp only[aj,kt]
 rw[jM,hh]at hown;have jz:(Value.slice a x.wakes.length c).ownBlock=m.aV (.wakes g):=by rw[←hh,Mem.mM]
 have Kc:=ag jz;have nv:=ag hown;have hbase:=R2.eS;have oN:=R2.jv (r:=.wakes g) R2.aB.al (by simp);have hng:=R2.jv (r:=.wakes g) R2.aB.gs (by simp);rw[←jz]at oN hng;have E8:=ag oN;have HNG:=ag hng;have nx:=ag A2;have cP:S.gs.length=((S.cJ s {sd with g:=z,done:=done}).ay z {y with aN:=s}).gs.length:=by simp[Wd.ay,Wd.cJ]
 rw[←cP]at c3;clear R2 kt hh hown jM jz oN hng A2 cP;have Np:=ag (fun(ops:Array Oper) (o:Oper) (ac:Act) (K:Act→World→Prop) (Q:Exit→Act→World→Prop) (E:Prop) (W3:World)=>jN (P:=prog) (ops:=ops) (o:=o) (a:=ac) (K:=K) (Q:=Q) (E:=E) (s:=.tmp 45) (x:=.tmp 47) (t:=28) (ht:=underlying28) (hi:=hi) (hz:=fV) (hsize:=gF) (hby:=gG) (hzs:=rfl) (hsz:=Nat.one_pos) (hbb:=vJ) (w2:=w2) (W3:=W3) (us:=#[I z]) (hus:=rfl) (h1:=qa z) (v:=.slice a x.wakes.length c) (n:=x.wakes.length) (xs:=x.wakes.map I) (hown:=nv.out) (hn:=V5) (hbase:=hbase));go_region_law (refine Np.out _ _ _ _ _ _ _ rfl rfl rfl rfl rfl ?_;intro gg cap w3 er bX bE;have c3p:=fW (o:=.cells #[I z] 3) bX c3 rfl E8.out;have g9p:=fW (o:=.cells #[I z] 3) bX g9 rfl HNG.out;have ay6:=fW (o:=.cells #[I z] 3) bX g23 rfl HNG.out;have ay7:=fN (o:=.cells #[I z] 3) bX Rz cm rfl HNG.out;have aw7:=fN (o:=.cells #[I z] 3) bX V4 cm rfl HNG.out;obtain⟨Iq,Ns,SH⟩:=ij er bX bE;clear er bX bE)
 all_goals
  go_wp2;go_end0;exact⟨rfl,Fg nx.out tm.out rfl Kc.out Iq.out Ns.out SH.out⟩
end
end Go.Proofs.YtadifmnmfnihdaaGreat
