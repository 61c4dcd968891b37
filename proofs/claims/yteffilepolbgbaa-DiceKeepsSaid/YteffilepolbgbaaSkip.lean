/- dice.Skip moves the count. -/
import Derived.Test.YteffilepolbgbaaDice
namespace Go.Proofs.Yteffilepolbgbaa
open Go.RowKit
set_option linter.unusedVariables false

def skipK (n k : Nat) (s : Int) : Nat := if s < 0 then k else if s ≤ (n : Int) - k then k + s.toNat else n

set_option maxHeartbeats 400000 in
theorem skip_plain (b g : Nat) (n k k' : Nat) (s : Int) (w : World) (_hn : n ≤ 300) (_hk : k ≤ n) (hs : 0 ≤ s)
    (hk' : k' = if s ≤ (n : Int) - k then k + s.toNat else n) (h0 : w.cell? ⟨b, 0, none⟩ = some (.slice (some ⟨g, 0, none⟩) n n)) (h1 : w.cell? ⟨b, 1, none⟩ = some (.int .i64 k)) (f1 : w.frozen? ⟨b, 1, none⟩ = false) :
    Calls Try.prog 20 #[.pointer (some ⟨b, 0, none⟩), .int .i64 s] w fun e w' => e = .returned (.tuple #[]) ∧ ∃ q, w' = (w.setCell ⟨b, 1, none⟩ (.int .i64 k')).drewN q := by
  have hc := fun q => left_plain b g n k (w.drewN q) _hn _hk h0 h1
  by_cases h : s ≤ (n : Int) - k
  · rw [if_pos h] at hk'
    have e1 : (k' : Int) = k + s := by omega
    have E1 := Lib.hid e1
    have HC := Lib.hid hc
    have hwr : IntKind.i64.wrap ((k : Int) + s) = (k : Int) + s := IntWalk.i64_in _ (by omega)
    clear hk' e1 hc
    go_enter Try.func20, Try.ntmps20
    go_wp2
    go_region_with (go_at_call 19; refine (HC.out _).mono ?_; rintro e w' ⟨rfl, q, rfl⟩)
    all_goals (go_wp2; go_end0; exact ⟨rfl, _, by rw [E1.out]; rfl⟩)
  · rw [if_neg h] at hk'
    have e1 : (k' : Int) = k + (n - k) := by omega
    have E1 := Lib.hid e1
    have HC := Lib.hid hc
    have hwr : IntKind.i64.wrap ((k : Int) + (n - k)) = (k : Int) + (n - k) := IntWalk.i64_in _ (by omega)
    clear hk' e1 hc
    go_enter Try.func20, Try.ntmps20
    go_wp2
    go_region_with (go_at_call 19; refine (HC.out _).mono ?_; rintro e w' ⟨rfl, q, rfl⟩)
    all_goals (go_wp2; go_end0; exact ⟨rfl, _, by rw [E1.out]; rfl⟩)

end Go.Proofs.Yteffilepolbgbaa
