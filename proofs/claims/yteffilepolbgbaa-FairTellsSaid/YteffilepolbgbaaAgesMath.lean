/- Who waits: ages, and windows of turns. -/
import Derived.Test.YteffilepolbgbaaPlanMath
namespace Go.Proofs.Yteffilepolbgbaa

def turnG (who : Int) (run : List Int) (f : Int → Int) (g : Int) : Int := if g ∈ run ∧ g ≠ who then f g + 1 else 0

/-- The ages behind q turns. -/
def ageF (ts : List (Int × List Int)) : Nat → Int → Int
  | 0, _ => 0
  | q + 1, g => turnG (ts.getD q (0, [])).1 (ts.getD q (0, [])).2 (ageF ts q) g

/-- At turn j g ran ahead, and it was not g's. -/
def Waits (ts : List (Int × List Int)) (g : Int) (j : Nat) : Prop := g ∈ (ts.getD j (0, [])).2 ∧ g ≠ (ts.getD j (0, [])).1

theorem ageF_in (ts : List (Int × List Int)) (q : Nat) (g : Int) : 0 ≤ ageF ts q g ∧ ageF ts q g ≤ q := by
  induction q with
  | zero => simp [ageF]
  | succ q ih =>
    unfold ageF turnG
    split <;> omega

theorem ageF_ge (ts : List (Int × List Int)) (K : Nat) (q : Nat) (g : Int) : (K : Int) ≤ ageF ts q g ↔ K ≤ q ∧ ∀ j, q - K ≤ j → j < q → Waits ts g j := by
  induction q generalizing K with
  | zero =>
    simp only [ageF]
    constructor
    · intro h; exact ⟨by omega, fun j _ h2 => absurd h2 (by omega)⟩
    · rintro ⟨h, _⟩; omega
  | succ q ih =>
    unfold ageF turnG
    by_cases hw : g ∈ (ts.getD q (0, [])).2 ∧ g ≠ (ts.getD q (0, [])).1
    · rw [if_pos hw]
      cases K with
      | zero =>
        have := (ageF_in ts q g).1
        constructor
        · intro _; exact ⟨by omega, fun j h1 h2 => absurd h1 (by omega)⟩
        · intro _; omega
      | succ K =>
        have := ih K
        constructor
        · intro h
          have h1 := this.1 (by omega)
          refine ⟨by omega, fun j hj hj2 => ?_⟩
          rcases Nat.lt_or_ge j q with h3 | h3
          · exact h1.2 j (by omega) h3
          · obtain rfl : j = q := by omega
            exact hw
        · rintro ⟨h1, h2⟩
          have := this.2 ⟨by omega, fun j hj hj2 => h2 j (by omega) (by omega)⟩
          omega
    · rw [if_neg hw]
      cases K with
      | zero =>
        constructor
        · intro _; exact ⟨by omega, fun j h1 h2 => absurd h1 (by omega)⟩
        · intro _; omega
      | succ K =>
        constructor
        · intro h; omega
        · rintro ⟨h1, h2⟩
          exact absurd (h2 q (by omega) (by omega)) hw

/-- Somebody is left waiting for K turns, told by the ages. -/
def Late (ts : List (Int × List Int)) (K : Nat) : Prop := ∃ q, q < ts.length ∧ ∃ g, g ∈ (ts.getD q (0, [])).2 ∧ (K : Int) ≤ ageF ts (q + 1) g
/-- .. told by a window of turns. -/
def Left (ts : List (Int × List Int)) (K : Nat) : Prop := ∃ i, i + K ≤ ts.length ∧ ∃ g, g ∈ (ts.getD i (0, [])).2 ∧ ∀ j, j < K → Waits ts g (i + j)

theorem late_iff_left (ts : List (Int × List Int)) (K : Nat) (hK : 1 ≤ K) : Late ts K ↔ Left ts K := by
  constructor
  · rintro ⟨q, hq, g, hg, ha⟩
    obtain ⟨h1, h2⟩ := (ageF_ge ts K (q + 1) g).1 ha
    refine ⟨q + 1 - K, by omega, g, (h2 (q + 1 - K) (by omega) (by omega)).1, fun j hj => h2 _ (by omega) (by omega)⟩
  · rintro ⟨i, hi, g, hg, hw⟩
    refine ⟨i + K - 1, by omega, g, ?_, ?_⟩
    · have := (hw (K - 1) (by omega)).1
      rw [show i + (K - 1) = i + K - 1 by omega] at this
      exact this
    · refine (ageF_ge ts K (i + K - 1 + 1) g).2 ⟨by omega, fun j h1 h2 => ?_⟩
      have := hw (j - i) (by omega)
      rw [show i + (j - i) = j by omega] at this
      exact this
end Go.Proofs.Yteffilepolbgbaa
