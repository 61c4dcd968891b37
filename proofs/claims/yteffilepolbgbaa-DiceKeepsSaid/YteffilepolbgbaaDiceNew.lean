/- dice.New makes a Dice of a list; handoffref01.Draw answers as the plain functions say; the chapter's example. -/
import Derived.Test.YteffilepolbgbaaDice
namespace Go.Proofs.Yteffilepolbgbaa
open Go.RowKit
set_option linter.unusedVariables false

theorem Try.info32 : (Try.prog.info? 32).map (fun i => (i.zero, i.size, i.bytes)) = some (some (.int .u16 0), 1, 2) := by kernel_rfl

theorem row_of_own {w : World} {B e g n : Nat} {xs : List Value} (h : w.ownsRow B e 1 (.slice (some ⟨g, 0, none⟩) n n) n xs) : w.heap[g]? = some (.cells xs.toArray e (0, 0)) := by
  rcases h.2 with ⟨h', _⟩ | ⟨g', cap, cur, h', hb, hg, hnc, hcm, hcs, ht⟩
  · simp at h'
  · simp only [Value.slice.injEq, Option.some.injEq, Addr.mk.injEq, and_true, true_and] at h'
    obtain ⟨rfl, rfl⟩ := h'
    rw [hg]
    have : cur.toList = xs := by rw [← ht, List.take_of_length_le (by simp [hcs])]
    rw [← this]

/-- A Dice handed back: its two blocks are new. -/
def NewDice (l : List Int) (w : World) (e : Ending) (w' : World) : Prop :=
  ∃ b g, e = .returned (.pointer (some ⟨b, 0, none⟩)) ∧ DiceAt w' b g l 0 ∧ Below w.heap.size w w' ∧ w.heap.size ≤ b ∧ w.heap.size ≤ g ∧ g < w'.heap.size

set_option maxHeartbeats 400000 in
theorem new_any (l : List Int) (n : Nat) (hn : n = l.length) (a : Option Addr) (c : Nat) (w : World) (h : Rd .u16 w a l) (hs : n ≤ 300) (hr : ∀ j, 0 ≤ l.getD j 0 ∧ l.getD j 0 < 65536) :
    Calls Try.prog 15 #[.slice a n c] w (NewDice l w) := by
  obtain ⟨i0, hi, hz0, hz1, hz2⟩ := info_parts Try.info32
  have Hn := Lib.hid hn; clear hn
  have H1 := Lib.hid h; clear h
  have HR := Lib.hid hr; clear hr
  go_enter Try.func15, Try.ntmps15
  go_wp2_with (at_make; go_loud (refine wpList_make_full _ rfl _ _ 22 rfl w.heap.size 32 i0 (.int .u16 0) 1 Try.underlying22 hi hz0 hz1 _ _ _ _ n rfl rfl rfl rfl (by rw [hz2]; omega) (by unfold maxLen; omega) (Nat.le_refl _) ?_))
  intro w1 hown hgrow
  have hb1 : Below w.heap.size w w1 := (Below.refl _ _).grown hgrow (Nat.le_refl _) (by intro k hk; cases hk)
  rw [toList_madeCells_one] at hown
  have hrow := row_of_own hown
  have Hrow := Lib.hid hrow
  obtain ⟨cs, hcs⟩ : ∃ cs, cs = l.map (Value.int .u16) := ⟨_, rfl⟩
  have Hcs := Lib.hid hcs
  have hlen : cs.length = n := by rw [Hcs.out, List.length_map, Hn.out]
  have Hlen := Lib.hid hlen
  clear hown hgrow hcs hrow hlen
  go_wp2_with (with_reducible refine wpList_copy_splice rfl (.tmp 7) (.tmp 8) 22 22 rfl 32 Try.underlying22 (by kernel_rfl) _ _ _ _ _ _ rfl rfl w.heap.size 0 (List.replicate n (.int .u16 0)) 32 Hrow.out cs ?c1 ?c2 ?c3 ?c4 w.heap.size w hb1 (Nat.le_refl _) ?_)
  case c1 => simp [Hlen.out]
  case c2 =>
    intro h0
    rw [Hlen.out, Hn.out] at h0
    obtain ⟨b, off, rfl, hc⟩ := (H1.out.below hb1 (Nat.le_refl _)).2 h0
    refine ⟨_, rfl, fun j v hv => ?_⟩
    rw [Hcs.out, List.getElem?_map] at hv
    have hj : j < l.length := by
      rcases Nat.lt_or_ge j l.length with h | h
      · exact h
      · rw [List.getElem?_eq_none h] at hv; cases hv
    rw [List.getElem?_eq_getElem hj] at hv
    rw [Addr.add_lit, hc j hj]
    simp at hv
    rw [← hv]
    simp [List.getD, hj]
  case c3 => simp [Hlen.out]
  case c4 =>
    intro v hv
    rw [Hcs.out] at hv
    exact ints_oneCell _ _ v hv
  intro w2 HG hb2
  go_wp2
  go_ret
  have hG := HG.out
  have e1 : splice (List.replicate n (Value.int .u16 0)) 0 cs = cs := by simp [splice, Hlen.out]
  rw [e1] at hG
  have hgs := (Array.getElem?_eq_some_iff.1 hG).1
  have hs2 := hb2.size
  refine ⟨_, w.heap.size, rfl, ⟨?_, ?_, by omega, Nat.zero_le _, by rw [← Hn.out]; exact hs, HR.out⟩, hb2.alloc hs2 _, by omega, Nat.le_refl _, by simp; omega⟩
  · rw [heap_alloc_new, ← Hn.out]; rfl
  · intro j hj
    rw [World.cell?_alloc_past _ _ _ hgs, cell_of_row _ _ _ _ _ _ hG, Hcs.out]
    simp [List.getD, hj]

end Go.Proofs.Yteffilepolbgbaa
