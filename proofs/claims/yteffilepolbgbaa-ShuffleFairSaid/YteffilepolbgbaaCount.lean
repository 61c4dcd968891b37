/- shuffle.Count and handoffref02.Count. -/
import Derived.Test.YteffilepolbgbaaSame
import Derived.Test.YteffilepolbgbaaShuf
namespace Go.Proofs.Yteffilepolbgbaa
open Go.RowKit

def factI : Nat → Int
  | 0 => 1
  | k + 1 => factI k * ((k : Int) + 1)
/-- How many orders of n there are. -/
def countI (n : Int) : Int := if n < 0 then 0 else if 20 < n then 0 else factI n.toNat

theorem factI_pos (k : Nat) : 1 ≤ factI k := by
  induction k with
  | zero => decide
  | succ k ih =>
    show 1 ≤ factI k * ((k : Int) + 1)
    have h1 : 1 * 1 ≤ factI k * ((k : Int) + 1) := Int.mul_le_mul ih (by omega) (by omega) (by omega)
    omega
theorem factI_mono (k : Nat) : factI k ≤ factI (k + 1) := by
  show factI k ≤ factI k * ((k : Int) + 1)
  have h := factI_pos k
  have h1 : factI k * 1 ≤ factI k * ((k : Int) + 1) := Int.mul_le_mul (Int.le_refl _) (by omega) (by omega) (by omega)
  omega
theorem factI_le (k : Nat) (h : k ≤ 20) : factI k ≤ 2432902008176640000 := by
  have key : ∀ j, k ≤ k + j → factI k ≤ factI (k + j) := by
    intro j _
    induction j with
    | zero => exact Int.le_refl _
    | succ j ih => exact Int.le_trans (ih (by omega)) (factI_mono _)
  have := key (20 - k) (by omega)
  rw [show k + (20 - k) = 20 from by omega] at this
  exact Int.le_trans this (by decide)

theorem countI_in (m : Nat) (h : m ≤ 20) : countI m = factI m := by
  unfold countI; rw [if_neg (by omega), if_neg (by omega)]; rfl

set_option maxHeartbeats 400000 in
theorem count_any (n : Int) (w : World) : Calls Try.prog 25 #[.int .i64 n] w fun e w' => e = .returned (.int .i64 (countI n)) ∧ w = w' := by
  by_cases h0 : n < 0
  · have hc : countI n = 0 := by unfold countI; rw [if_pos h0]
    rw [hc]; clear hc
    go_enter Try.func25, Try.ntmps25
    go_wp2
    go_ret
    exact ⟨rfl, rfl⟩
  by_cases h1 : 20 < n
  · have hc : countI n = 0 := by unfold countI; rw [if_neg h0, if_pos h1]
    rw [hc]; clear hc
    go_enter Try.func25, Try.ntmps25
    go_wp2
    go_ret
    exact ⟨rfl, rfl⟩
  obtain ⟨m, rfl⟩ := Int.eq_ofNat_of_zero_le (by omega : 0 ≤ n)
  rw [countI_in m (by omega)]
  have hm : m ≤ 20 := by omega
  clear h0 h1
  go_enter Try.func25, Try.ntmps25
  go_wp2
  go_loop [3, 4, 12] (fun c _ i => ∃ k : Nat, k ≤ m ∧ i = .int .i64 k ∧ c = .int .i64 (factI k)) (fun _ _ i => m - (intOf i).toNat)
  case atStart => exact ⟨0, Nat.zero_le _, rfl, rfl⟩
  case round =>
    obtain ⟨k, hk, rfl, rfl⟩ := hrel
    by_cases hlt : k < m
    · have p1 := factI_pos (k + 1)
      have p2 := factI_le (k + 1) (by omega)
      have e : factI (k + 1) = factI k * ((k : Int) + 1) := rfl
      rw [e] at p1 p2
      have E := Lib.hid e
      clear e
      go_wp2
      go_round
      case rel => exact ⟨k + 1, by omega, by go_num, by rw [E.out]⟩
      case measure => simp [intOf]; omega
    · obtain rfl : k = m := by omega
      go_wp2
      go_ret
      exact ⟨rfl, rfl⟩

theorem rcount_nat (m : Nat) (hm : m ≤ 20) : ∀ w : World, Calls Try.prog 50 #[.int .i64 m] w fun e w' => e = .returned (.int .i64 (factI m)) ∧ w = w' := by
  induction m with
  | zero =>
    intro w
    go_enter Try.func50, Try.ntmps50
    go_wp2
    go_ret
    exact ⟨rfl, rfl⟩
  | succ k ih =>
    intro w
    have IH := Lib.hid (ih (by omega)); clear ih
    have p1 := factI_pos (k + 1)
    have p2 := factI_le (k + 1) (by omega)
    have e : factI (k + 1) = ((k : Int) + 1) * factI k := Int.mul_comm _ _
    rw [e] at p1 p2
    have E := Lib.hid e
    clear e
    have h0 : (((k + 1 : Nat) : Int) == 0) = false := by simp; omega
    go_enter Try.func50, Try.ntmps50
    go_wp2_with (go_at_call 50; refine (IH.out _).mono ?_; rintro e w' ⟨rfl, rfl⟩)
    go_ret
    exact ⟨by rw [E.out]; rfl, rfl⟩

theorem rcount_any (n : Int) (w : World) : Calls Try.prog 50 #[.int .i64 n] w fun e w' => e = .returned (.int .i64 (countI n)) ∧ w = w' := by
  by_cases h0 : n < 0
  · have hc : countI n = 0 := by unfold countI; rw [if_pos h0]
    rw [hc]; clear hc
    go_enter Try.func50, Try.ntmps50
    go_wp2
    go_ret
    exact ⟨rfl, rfl⟩
  by_cases h1 : 20 < n
  · have hc : countI n = 0 := by unfold countI; rw [if_neg h0, if_pos h1]
    rw [hc]; clear hc
    go_enter Try.func50, Try.ntmps50
    go_wp2
    go_ret
    exact ⟨rfl, rfl⟩
  obtain ⟨m, rfl⟩ := Int.eq_ofNat_of_zero_le (by omega : 0 ≤ n)
  rw [countI_in m (by omega)]
  exact rcount_nat m (by omega) w

theorem ord001 : ordN [0, 0, 1] 3 = [1, 2, 0] := by decide

set_option maxHeartbeats 400000 in
theorem shuffle_alive (w : World) : Calls Try.prog 21 #[] w fun e w' => e = .returned (.bool true) ∧ Below w.heap.size w w' := by
  go_enter Try.func21, Try.ntmps21
  go_wp2_with fail
  refine (order_any [0, 0, 1] 3 rfl _ _ _ ?_ (by omega)).mono ?_
  · refine ⟨by simp, fun _ => ⟨_, 0, rfl, fun j hj => ?_⟩⟩
    match j, hj with
    | 0, _ => simp [go_sem]
    | 1, _ => simp [go_sem]
    | 2, _ => simp [go_sem]
  rw [ord001]
  rintro e w1 ⟨v, rfl, hown, hb⟩
  obtain ⟨ao, cap, rfl, hr⟩ := hown.rd (by simp)
  have hb0 : Below w.heap.size w w1 := ((Below.refl _ _).alloc (Nat.le_refl _) _).trans (hb.mono (by simp))
  go_wp2_with fail
  refine (same_yes [1, 2, 0] 3 rfl _ _ _ _ _ (hr.below ((Below.refl _ _).alloc (Nat.le_refl _) _) (Nat.le_refl _)) ?_).mono ?_
  · refine ⟨by simp, fun _ => ⟨_, 0, rfl, fun j hj => ?_⟩⟩
    match j, hj with
    | 0, _ => simp [go_sem]
    | 1, _ => simp [go_sem]
    | 2, _ => simp [go_sem]
  rintro e w2 ⟨rfl, q, rfl⟩
  have h24 : countI 4 = 24 := by decide
  go_wp2_with (go_at_call 25; refine (count_any 4 _).mono ?_; rw [h24]; rintro e w' ⟨rfl, rfl⟩)
  go_ret
  exact ⟨rfl, below_drewN (hb0.trans ((Below.refl _ _).alloc hb0.size _)) _⟩
end Go.Proofs.Yteffilepolbgbaa
