/- dice.Skip, whatever is asked. -/
import Derived.Test.YteffilepolbgbaaSkip
namespace Go.Proofs.Yteffilepolbgbaa
open Go.RowKit
set_option linter.unusedVariables false

theorem skipK_le (n k : Nat) (s : Int) (h : k ≤ n) : skipK n k s ≤ n := by unfold skipK; split; omega; split <;> omega

set_option maxHeartbeats 400000 in
theorem skip_low (b : Nat) (s : Int) (w : World) (hs : s < 0) :
    Calls Try.prog 20 #[.pointer (some ⟨b, 0, none⟩), .int .i64 s] w fun e w' => e = .returned (.tuple #[]) ∧ w = w' := by
  go_enter Try.func20, Try.ntmps20
  go_wp2
  exact bodyPost_ret (v := .tuple #[]) (results_none rfl _ _ _) rfl ⟨rfl, rfl⟩

theorem skip_any {b g : Nat} {l : List Int} {k : Nat} (s : Int) {w : World} (D : DiceAt w b g l k) :
    Calls Try.prog 20 #[.pointer (some ⟨b, 0, none⟩), .int .i64 s] w (Drawn b g l (.tuple #[]) (skipK l.length k s) w) := by
  by_cases hs : s < 0
  · have e : skipK l.length k s = k := by unfold skipK; rw [if_pos hs]
    rw [e]
    exact (skip_low b s w hs).mono fun e w' ⟨he, hw⟩ => ⟨he, by rw [← hw]; exact D, by rw [← hw]; exact touch_drewN b w 0⟩
  · have e : skipK l.length k s = if s ≤ (l.length : Int) - k then k + s.toNat else l.length := by unfold skipK; rw [if_neg hs]
    exact (skip_plain b g l.length k _ s w D.small D.hk (by omega) e D.c0 D.c1 D.f1).mono fun e w' ⟨he, q, hw⟩ =>
      ⟨he, by rw [hw]; exact D.set (skipK_le _ _ _ D.hk) q, by rw [hw]; exact touch_set b 1 w _ q⟩
end Go.Proofs.Yteffilepolbgbaa
