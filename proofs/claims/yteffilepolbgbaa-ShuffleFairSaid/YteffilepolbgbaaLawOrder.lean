/- The laws OrderSorts and OrderLocks, walked. -/
import Derived.Test.YteffilepolbgbaaLocks
import Derived.Test.YteffilepolbgbaaHeap
import Derived.Test.YteffilepolbgbaaSame
namespace Go.Proofs.Yteffilepolbgbaa
open Go.RowKit
set_option linter.unusedVariables false

theorem locks3013 : locksI [3, 0, 1, 3] = [1, 3] := by
  have h : [0, 1, 3, 3] = sortI [3, 0, 1, 3] := sortI_of (by decide) (by decide)
  unfold locksI
  rw [← h]
  decide

set_option maxHeartbeats 400000 in
theorem order_alive (w : World) : Calls Try.prog 28 #[] w fun e w' => e = .returned (.bool true) ∧ Below w.heap.size w w' := by
  go_enter Try.func28, Try.ntmps28
  go_wp2_with fail
  refine (locks_any [3, 0, 1, 3] 4 rfl _ _ _ ?_ (by omega)).mono ?_
  · refine ⟨by simp, fun _ => ⟨_, 0, rfl, fun j hj => ?_⟩⟩
    match j, hj with
    | 0, _ => simp [go_sem]
    | 1, _ => simp [go_sem]
    | 2, _ => simp [go_sem]
    | 3, _ => simp [go_sem]
  rw [locks3013]
  rintro e w1 ⟨v, rfl, hown, hb⟩
  obtain ⟨ao, cap, rfl, hr⟩ := hown.rd (by simp)
  have hb0 : Below w.heap.size w w1 := ((Below.refl _ _).alloc (Nat.le_refl _) _).trans (hb.mono (by simp))
  go_wp2_with fail
  refine (same_yes [1, 3] 2 rfl _ _ _ _ _ (hr.below ((Below.refl _ _).alloc (Nat.le_refl _) _) (Nat.le_refl _)) ?_).mono ?_
  · refine ⟨by simp, fun _ => ⟨_, 0, rfl, fun j hj => ?_⟩⟩
    match j, hj with
    | 0, _ => simp [go_sem]
    | 1, _ => simp [go_sem]
  rintro e w2 ⟨rfl, q, rfl⟩
  go_wp2
  go_ret
  exact ⟨rfl, below_drewN (hb0.trans ((Below.refl _ _).alloc hb0.size _)) _⟩

/-- What a call that hands back new memory leaves: the slice reads so, and nothing that was there has turned. -/
theorem fresh_use {w0 w w1 : World} {zs : List Int} {e : Ending} (hb : Below w0.heap.size w0 w) (h : FreshI w zs e w1) (hl : zs.length ≤ 1000) :
    ∃ ao cap, e = .returned (.slice ao zs.length cap) ∧ Rd .i64 w1 ao zs ∧ Below w.heap.size w w1 ∧ Below w0.heap.size w0 w1 := by
  obtain ⟨v, rfl, hown, hb1⟩ := h
  obtain ⟨ao, cap, rfl, hr⟩ := hown.rd (by omega)
  exact ⟨ao, cap, rfl, hr, hb1, hb.trans (hb1.mono hb.size)⟩

set_option maxHeartbeats 1000000 in
theorem orderSorts_walk (zs : List Int) (n : Nat) (hn : n = zs.length) (a : Option Addr) (c : Nat) (w : World) (h : Rd .i64 w a zs) :
    Calls Try.prog 10 #[.slice a n c] w fun e w' => e = .returned (.bool true) ∧ Below w.heap.size w w' := by
  have hl1 := h.len
  rw [← hn] at hl1
  have Hn := Lib.hid hn; clear hn
  have H1 := Lib.hid h; clear h
  go_enter Try.func10, Try.ntmps10
  go_wp2_with fail
  refine (order_alive _).mono ?_
  rintro e w1 ⟨rfl, hb⟩
  have HB := Lib.hid hb; clear hb
  by_cases h100 : 200 < n
  · go_wp2
    go_ret
    exact ⟨rfl, HB.out⟩
  have hle : n ≤ 1000 := by omega
  go_wp2_with fail
  refine (sort_any zs n Hn.out a c _ (H1.out.below HB.out (Nat.le_refl _)) hle).mono ?_
  intro e w2 hF
  obtain ⟨a2, c2, rfl, r2, b2, hb2⟩ := fresh_use HB.out hF (by rw [length_sortI, ← Hn.out]; omega)
  rw [length_sortI, ← Hn.out]
  have HB2 := Lib.hid hb2
  have R2 := Lib.hid r2
  clear hF r2 b2 hb2 HB
  go_wp2_with fail
  refine (rsort_any zs n Hn.out a c _ (H1.out.below HB2.out (Nat.le_refl _)) hle).mono ?_
  intro e w3 hF
  obtain ⟨a3, c3, rfl, r3, b3, hb3⟩ := fresh_use HB2.out hF (by rw [length_sortI, ← Hn.out]; omega)
  rw [length_sortI, ← Hn.out]
  have HB3 := Lib.hid hb3
  have R3 := Lib.hid r3
  have R23 := Lib.hid (R2.out.below b3 (Nat.le_refl _))
  clear hF r3 b3 hb3 HB2 R2
  go_wp2_with fail
  refine (same_yes (sortI zs) n (by rw [length_sortI, ← Hn.out]) _ _ _ _ _ R23.out R3.out).mono ?_
  rintro e w4 ⟨rfl, q, hq⟩
  have HB4 : Hid (Below w.heap.size w w4) := by show Below _ _ _; rw [hq]; exact below_drewN HB3.out q
  clear hq HB3 R3 R23
  go_wp2_with fail
  refine (heap_any zs n Hn.out a c _ (H1.out.below HB4.out (Nat.le_refl _)) hle).mono ?_
  rintro e w5 ⟨rfl, q2, hq⟩
  have HB5 : Hid (Below w.heap.size w w5) := by show Below _ _ _; rw [hq]; exact below_drewN HB4.out q2
  clear hq HB4
  go_wp2_with fail
  refine (rheap_any zs n Hn.out a c _ (H1.out.below HB5.out (Nat.le_refl _)) hle).mono ?_
  rintro e w5 ⟨rfl, rfl⟩
  go_wp2_with fail
  refine (turned_any zs n Hn.out a c _ (H1.out.below HB5.out (Nat.le_refl _)) hle).mono ?_
  intro e w6 hF
  obtain ⟨a6, c6, rfl, r6, b6, hb6⟩ := fresh_use HB5.out hF (by rw [List.length_reverse, ← Hn.out]; omega)
  rw [List.length_reverse, ← Hn.out]
  have HB6 := Lib.hid hb6
  have R6 := Lib.hid r6
  clear hF r6 b6 hb6 HB5
  go_wp2_with fail
  refine (rturned_any zs n Hn.out a c _ (H1.out.below HB6.out (Nat.le_refl _)) hle).mono ?_
  intro e w7 hF
  obtain ⟨a7, c7, rfl, r7, b7, hb7⟩ := fresh_use HB6.out hF (by rw [List.length_reverse, ← Hn.out]; omega)
  rw [List.length_reverse, ← Hn.out]
  have HB7 := Lib.hid hb7
  have R7 := Lib.hid r7
  have R67 := Lib.hid (R6.out.below b7 (Nat.le_refl _))
  clear hF r7 b7 hb7 HB6 R6
  go_wp2_with fail
  refine (same_yes zs.reverse n (by rw [List.length_reverse, ← Hn.out]) _ _ _ _ _ R67.out R7.out).mono ?_
  rintro e w8 ⟨rfl, q, hq⟩
  have HB8 : Hid (Below w.heap.size w w8) := by show Below _ _ _; rw [hq]; exact below_drewN HB7.out q
  clear hq HB7 R7 R67
  go_wp2
  go_ret
  exact ⟨by simp, HB8.out⟩
end Go.Proofs.Yteffilepolbgbaa
