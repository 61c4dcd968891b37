/- handoffref01.Draw; the chapter's example; the law DiceDraws, walked. -/
import Derived.Test.YteffilepolbgbaaDiceNew
namespace Go.Proofs.Yteffilepolbgbaa
open Go.RowKit
set_option linter.unusedVariables false

set_option maxHeartbeats 400000 in
theorem rdraw_any (l : List Int) (n : Nat) (hn : n = l.length) (a : Option Addr) (c : Nat) (k : Nat) (s : Int) (w : World) (h : Rd .u16 w a l) (hs : n ≤ 300) (hk : k ≤ n) (hr : ∀ j, 0 ≤ l.getD j 0 ∧ l.getD j 0 < 65536) :
    Calls Try.prog 16 #[.slice a n c, .int .i64 k, .int .i64 s] w fun e w' => e = .returned (.tuple #[.int .i64 (drawV l k s), .int .i64 (drawK l k s)]) ∧ w = w' := by
  by_cases hs1 : s < 1
  · have e1 : drawV l k s = 0 := by unfold drawV; rw [if_pos (.inl hs1)]
    have e2 : drawK l k s = k := by unfold drawK; rw [if_pos (.inl hs1)]
    rw [e1, e2]
    clear e1 e2 hn hr h
    go_enter Try.func16, Try.ntmps16
    go_wp2
    go_ret2
    exact ⟨rfl, rfl⟩
  by_cases hl : n ≤ k
  · have e1 : drawV l k s = 0 := by unfold drawV; rw [if_pos (.inr (hn ▸ hl))]
    have e2 : drawK l k s = k := by unfold drawK; rw [if_pos (.inr (hn ▸ hl))]
    rw [e1, e2]
    clear e1 e2 hn hr h
    go_enter Try.func16, Try.ntmps16
    go_wp2
    go_ret2
    exact ⟨rfl, rfl⟩
  · have e1 : drawV l k s = l.getD k 0 % s := by unfold drawV; rw [if_neg (by omega)]
    have e2 : drawK l k s = k + 1 := by unfold drawK; rw [if_neg (by omega)]
    obtain ⟨b, off, rfl, hc⟩ := h.at k (by omega)
    obtain ⟨x, hx⟩ := named (l.getD k 0)
    have h0 : 0 ≤ x ∧ x < 65536 := by rw [hx.out]; exact hr k
    rw [e1, e2, ← hx.out]
    rw [← hx.out] at hc
    obtain ⟨x0, x1⟩ := h0
    clear e1 e2 hn hr h hx
    go_enter Try.func16, Try.ntmps16
    go_wp2
    go_ret2
    exact ⟨rfl, rfl⟩

theorem drawVa : drawV [7, 9] 0 5 = 2 := by decide
theorem drawVb : drawV [7, 9] 1 5 = 4 := by decide
theorem drawVc : drawV [7, 9] 2 5 = 0 := by decide
theorem drawKa : drawK [7, 9] 0 5 = 1 := by decide
theorem drawKb : drawK [7, 9] 1 5 = 2 := by decide
theorem drawKc : drawK [7, 9] 2 5 = 2 := by decide

set_option maxHeartbeats 400000 in
theorem dice_alive (w : World) : Calls Try.prog 14 #[] w fun e w' => e = .returned (.bool true) ∧ Below w.heap.size w w' := by
  go_enter Try.func14, Try.ntmps14
  go_wp2_with fail
  refine (new_any [7, 9] 2 rfl _ _ _ ?_ (by omega) ?_).mono ?_
  · refine ⟨by simp, fun _ => ⟨_, 0, rfl, fun j hj => ?_⟩⟩
    match j, hj with
    | 0, _ => simp [go_sem]
    | 1, _ => simp [go_sem]
  · intro j
    match j with
    | 0 => simp
    | 1 => simp
    | j + 2 => simp
  rintro e w1 ⟨b, g, rfl, D, hb, hlb, hlg, hgs⟩
  have hb0 : Below w.heap.size w w1 := ((Below.refl _ _).alloc (Nat.le_refl _) _).trans (hb.mono (by simp))
  have hB : w.heap.size ≤ b := by simp at hlb; omega
  have c1 := draw_any 5 D
  rw [drawVa, drawKa] at c1
  clear hb hlb hlg hgs
  go_wp2_with fail
  refine c1.mono ?_
  rintro e w2 ⟨rfl, D2, T2⟩
  have c2 := draw_any 5 D2
  rw [drawVb, drawKb] at c2
  clear c1
  go_wp2_with fail
  refine c2.mono ?_
  rintro e w3 ⟨rfl, D3, T3⟩
  have c3 := draw_any 5 D3
  rw [drawVc, drawKc] at c3
  clear c2
  go_wp2_with fail
  refine c3.mono ?_
  rintro e w4 ⟨rfl, D4, T4⟩
  have c4 := drawn_any D4
  clear c3
  go_wp2_with fail
  refine c4.mono ?_
  rintro e w5 ⟨rfl, rfl⟩
  have hfin := hb0.trans (((T2.trans T3).trans T4).below hB)
  clear c4 D D2 D3 D4 T2 T3 T4 hb0
  go_wp2
  go_ret
  exact ⟨rfl, hfin⟩
end Go.Proofs.Yteffilepolbgbaa
