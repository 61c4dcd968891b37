/- handoffref02.All: all rows of draws, as they count. -/
import Derived.Test.YteffilepolbgbaaNest
import Derived.Test.YteffilepolbgbaaRSort
import Derived.Test.YteffilepolbgbaaIs
namespace Go.Proofs.Yteffilepolbgbaa
open Go.RowKit
set_option linter.unusedVariables false

theorem Try.info23 : (Try.prog.info? 23).map (fun i => (i.zero, i.size, i.bytes)) = some (some (.slice none 0 0), 1, 24) := by kernel_rfl

def rowTo (l : List Int) (d : Nat) : List (List Int) := (List.range d).map fun i : Nat => l ++ [(i : Int)]
/-- All rows of draws of n. -/
def allL : Nat → List (List Int)
  | 0 => [[]]
  | m + 1 => (allL m).flatMap fun l => rowTo l (m + 1)
def allTo (m i : Nat) : List (List Int) := ((allL m).take i).flatMap fun l => rowTo l (m + 1)

theorem rowTo_zero (l : List Int) : rowTo l 0 = [] := rfl
theorem rowTo_succ (l : List Int) (d : Nat) : rowTo l (d + 1) = rowTo l d ++ [l ++ [(d : Int)]] := by simp [rowTo, List.range_succ]
theorem length_rowTo (l : List Int) (d : Nat) : (rowTo l d).length = d := by simp [rowTo]
theorem allTo_zero (m : Nat) : allTo m 0 = [] := by simp [allTo]
theorem allTo_succ (m i : Nat) (h : i < (allL m).length) : allTo m (i + 1) = allTo m i ++ rowTo ((allL m).getD i []) (m + 1) := by
  unfold allTo
  rw [List.take_succ_eq_append_getElem h, List.flatMap_append]
  simp [List.getD, h]
theorem allTo_all (m : Nat) : allTo m (allL m).length = allL (m + 1) := by
  unfold allTo
  rw [List.take_length]; rfl
theorem length_allTo (m i : Nat) (h : i ≤ (allL m).length) : (allTo m i).length = i * (m + 1) := by
  induction i with
  | zero => simp [allTo_zero]
  | succ i ih =>
    rw [allTo_succ m i (by omega), List.length_append, ih (by omega), length_rowTo, Nat.add_mul]
    omega
def facN : Nat → Nat
  | 0 => 1
  | m + 1 => facN m * (m + 1)
theorem length_allL_eq (m : Nat) : (allL m).length = facN m := by
  induction m with
  | zero => rfl
  | succ m ih => rw [← allTo_all, length_allTo _ _ (Nat.le_refl _), ih]; rfl
theorem length_allL (m : Nat) (h : m ≤ 6) : (allL m).length ≤ 720 := by
  rw [length_allL_eq]
  have key : ∀ q : Fin 7, facN q ≤ 720 := by decide
  exact key ⟨m, by omega⟩
theorem length_row (m : Nat) : ∀ l, l ∈ allL m → l.length = m := by
  induction m with
  | zero => intro l h; simp [allL] at h; rw [h]; rfl
  | succ m ih =>
    intro l h
    unfold allL at h
    obtain ⟨a, ha, hl⟩ := List.mem_flatMap.1 h
    unfold rowTo at hl
    obtain ⟨d, _, rfl⟩ := List.mem_map.1 hl
    rw [List.length_append, ih a ha]; rfl
theorem getD_memL {ls : List (List Int)} {i : Nat} (h : i < ls.length) : ls.getD i [] ∈ ls := by
  have : ls.getD i [] = ls[i] := by simp [List.getD, h]
  rw [this]; exact List.getElem_mem h

/-- Each of these values lies from block lo on. -/
def FreshV (lo : Nat) (vs : List Value) : Prop := ∀ v ∈ vs, ∀ k, v.ownBlock = some k → lo ≤ k
/-- Rows handed back in new memory. -/
def AllPost (ls : List (List Int)) (w0 : World) (e : Ending) (w' : World) : Prop :=
  ∃ ao cap vs g, e = .returned (.slice ao ls.length cap) ∧ RdV w' ao vs ∧ RowsRd w' g vs ls ∧ FreshV w0.heap.size (.slice ao ls.length cap :: vs) ∧ Below w0.heap.size w0 w'

/-- The rows so far. -/
structure AW (B B1 : Nat) (w1 : World) (ls : List (List Int)) (g cap : Nat) (wr : World) : Prop where
  ex : ∃ vs, wr.ownsRow B 23 1 (.slice (some ⟨g, 0, none⟩) ls.length cap) ls.length vs ∧ RowsRd wr g vs ls ∧ FreshV B vs
  pos : (cap = 0 ∧ g = B) ∨ B1 ≤ g
  lt : g < wr.heap.size
  below : Below B1 w1 wr

theorem RdV.of_own {B e n : Nat} {w : World} {v : Value} {vs : List Value} (h : w.ownsRow B e 1 v n vs) : ∃ ao cap, v = .slice ao n cap ∧ RdV w ao vs := by
  have hl : vs.length = n := by have := h.1; omega
  rcases h.2 with ⟨rfl, h0⟩ | ⟨g, cap, cur, rfl, hB, hg, hn, hc, hs, ht⟩
  · exact ⟨none, 0, by rw [h0], fun h1 => by omega⟩
  · refine ⟨some ⟨g, 0, none⟩, cap, rfl, fun h1 => ⟨g, 0, rfl, fun j hj => ?_⟩⟩
    rw [Nat.zero_add, World.ownsRow.cellAt (g := g) (cap := cap) h j (by omega)]
    simp [List.getD, hj]

theorem aw_step {B B1 : Nat} {w1 wr w4 w5 : World} {ls : List (List Int)} {g cap g' cap' : Nat} {ao : Option Addr} {c : Nat} {l : List Int} {vs : List Value} (h : AW B B1 w1 ls g cap wr) (hv : wr.ownsRow B 23 1 (.slice (some ⟨g, 0, none⟩) ls.length cap) ls.length vs) (hrr : RowsRd wr g vs ls) (hfv : FreshV B vs) (hBw : B ≤ wr.heap.size) (hnb : ∀ a, ao = some a → wr.heap.size ≤ a.block)
    (h4 : Below wr.heap.size wr w4) (hB1 : B1 ≤ wr.heap.size) (hr : Rd .i64 w4 ao l) (hne : ∀ b off, ao = some ⟨b, off, none⟩ → wr.heap.size ≤ b ∧ b < w4.heap.size)
    (hown : w5.ownsRow B 23 1 (.slice (some ⟨g', 0, none⟩) (ls.length + 1) cap') (ls.length + 1) (vs ++ [.slice ao l.length c])) (hgr : w4.grownBy w5 (some g')) (hgg : (g = g' ∧ ls.length + 1 ≤ cap) ∨ g' = w4.heap.size) (hB : Below B1 w1 w5) :
    AW B B1 w1 (ls ++ [l]) g' cap' w5 := by
  have hlt := h.lt
  have hs4 := h4.size
  refine ⟨⟨_, by rw [List.length_append]; exact hown, RowsRd.snoc (hrr.below h4 (Nat.le_refl _)) hr (fun b off e => ?_) hgr ?_, fun v hv k hk => ?_⟩, ?_, (hown.lt g' rfl).2, hB⟩
  · have := hne b off e; exact ⟨by omega, by omega⟩
  · rcases hgg with h | h
    · exact .inl h.1.symm
    · exact .inr h
  · rw [List.mem_append] at hv
    rcases hv with hv | hv
    · exact hfv v hv k hk
    · simp at hv
      subst hv
      cases ao with
      | none => simp [Value.ownBlock] at hk
      | some a =>
        simp [Value.ownBlock] at hk
        have := hnb a rfl
        omega
  · rcases hgg with ⟨rfl, h5⟩ | h5
    · rcases h.pos with h6 | h6
      · omega
      · exact .inr h6
    · exact .inr (by omega)
end Go.Proofs.Yteffilepolbgbaa
