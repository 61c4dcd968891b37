import Derived.Test.YtadifmnmfnihdaaGreatA02
set_option linter.all false
set_option maxRecDepth 100000
set_option maxHeartbeats 40000000
namespace Go.Proofs.YtadifmnmfnihdaaGreat
open Go.RowKit Mach Go.Proofs.Tryz
theorem Ml(o:cu)(hk:o.ai=1∨o.ai=2∨o.ai=3∨o.ai=4∨o.ai=5∨o.ai=6∨o.ai=7∨o.ai=8)(a:Option Addr)(c:Nat)(w:World)(n:Nat)(hn:n=o.cases.length)(hr:mI o=true):Calls prog 42 #[.agg #[I o.ai,I o.ch,I o.n,I o.v,.slice a n c,B o.dG]] w (eL (.bool (yF o)) (Below w.heap.size w)):=by
 rcases hk with hk|hk|hk|hk|hk|hk|hk|hk
 all_goals
  have e:yF o=((il o.ai||decide (o.ch=0))&&(kD o.ai||decide (o.v=0))&&(decide (o.ai=1)||decide (o.n=0))&&(!o.dG&&decide (n=0))):=by
   rw[DB,hr,hk,hn]
   cases fa:o.cases with
   |nil=>simp
   |cons x l=>simp
  rw[e,hk];have hn6:n≤6:=by unfold mI at hr;simp at hr;rw[hn];omega
  have hn7:decide (6<(n:Int))=false:=bi8
  obtain⟨a1,a2,a3,a4,a5,a6,a7,a8,b1,b2,b3,b4,b5,b6,b7,b8⟩:il 1=false∧il 2=true∧il 3=true∧il 4=true∧il 5=true∧il 6=true∧il 7=true∧il 8=true∧kD 1=false∧kD 2=true∧kD 3=false∧kD 4=true∧kD 5=false∧kD 6=false∧kD 7=false∧kD 8=false:=dX
  obtain⟨dG,FX⟩:=dC (o.dG);rw[←FX];have HR:=ag hr;have C5:0≤o.ch∧o.ch≤8∧0≤o.n∧o.n≤4∧0≤o.v∧o.v≤255:=br8
  obtain⟨ch,bO⟩:=dC (o.ch);obtain⟨nn,Ww⟩:=dC (o.n);obtain⟨v,hv⟩:=dC (o.v);rw[←bO,←Ww,←hv]at C5 ⊢;obtain⟨r1,r2,r3,r4,r5,r6⟩:=C5;clear hr hn hk e FX bO Ww hv HR;go_enter func42,ntmps42;go_wp2_with (first|(go_at_call 75;refine(sq _ _).mono ?_;rintro e w1 ⟨rfl,rfl⟩)|(go_at_call 76;refine(uc _ _).mono ?_;rintro e w1 ⟨rfl,rfl⟩))
  all_goals first
   |(exfalso;omega)
   |(go_ret;refine⟨?_,(fp _ _).alloc cG _⟩;first|(simp_all;done)|(simp_all;omega))
   |(obtain rfl:n=0:=by omega
     go_loopw [97] (fun q wr=>q=.int .i64 0∧Hid (Below w.heap.size w wr)) (fun _ _=>0)
     case atStart=>exact⟨rfl,(fp _ _).alloc cG _⟩
     case round=>
      obtain⟨rfl,HB⟩:=hrel;go_wp2;go_ret;refine⟨?_,HB⟩;simp_all;done)
end Go.Proofs.YtadifmnmfnihdaaGreat
