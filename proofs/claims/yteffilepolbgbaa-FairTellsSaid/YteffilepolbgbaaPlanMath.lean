/- How much there is to do: plain arithmetic on the lengths. -/
import Init
namespace Go.Proofs.Yteffilepolbgbaa

def rowW : List Nat → Nat
  | [] => 0
  | c :: cs => 24 + 16 * c + rowW cs
/-- Work, without the number of rows. -/
def plW : List (List Nat) → Nat
  | [] => 0
  | r :: rs => rowW r + plW rs

/-- A plan that the law looks at. -/
def Small (pl : List (List Nat)) : Prop := pl.length ≤ 100 ∧ ∀ i, i < pl.length → (pl.getD i []).length ≤ 100 ∧ ∀ j, j < (pl.getD i []).length → (pl.getD i []).getD j 0 ≤ 100

theorem rowW_take : ∀ (cs : List Nat) (j : Nat), j < cs.length → rowW (cs.take (j + 1)) = rowW (cs.take j) + (24 + 16 * cs.getD j 0)
  | [], j, h => absurd h (by simp)
  | c :: cs, 0, _ => by simp [rowW]
  | c :: cs, j + 1, h => by
    have := rowW_take cs j (by simpa using h)
    simp only [List.take_succ_cons, rowW, this, List.getD_cons_succ]
    omega

theorem plW_take : ∀ (pl : List (List Nat)) (i : Nat), i < pl.length → plW (pl.take (i + 1)) = plW (pl.take i) + rowW (pl.getD i [])
  | [], i, h => absurd h (by simp)
  | r :: rs, 0, _ => by simp [plW]
  | r :: rs, i + 1, h => by
    have := plW_take rs i (by simpa using h)
    simp only [List.take_succ_cons, plW, this, List.getD_cons_succ]
    omega

theorem plW_all (pl : List (List Nat)) : plW (pl.take pl.length) = plW pl := by rw [List.take_length]
theorem rowW_all (r : List Nat) : rowW (r.take r.length) = rowW r := by rw [List.take_length]
end Go.Proofs.Yteffilepolbgbaa
