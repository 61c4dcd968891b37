/- The law OrderLocks, walked. -/
import Derived.Test.YteffilepolbgbaaLawOrder
namespace Go.Proofs.Yteffilepolbgbaa
open Go.RowKit
set_option linter.unusedVariables false

/-- Rising from 1 on, none above u. -/
structure Rising (l : List Int) (u : Int) : Prop where
  pos : ∀ i, i < l.length → 1 ≤ l.getD i 0
  up : ∀ i, i + 1 < l.length → l.getD i 0 < l.getD (i + 1) 0
  top : ∀ i, i < l.length → l.getD i 0 ≤ u

theorem getD_snoc (l : List Int) (x : Int) (i : Nat) : (l ++ [x]).getD i 0 = if i < l.length then l.getD i 0 else if i = l.length then x else 0 := by
  simp only [List.getD_eq_getElem?_getD, List.getElem?_append]
  split
  · rfl
  · split
    · rename_i h1 h2; simp [h2]
    · rename_i h1 h2
      have : i - l.length ≠ 0 := by omega
      obtain ⟨j, hj⟩ : ∃ j, i - l.length = j + 1 := ⟨i - l.length - 1, by omega⟩
      simp [hj]

theorem rising_step {l : List Int} {u x : Int} (h : Rising l u) (hx : u ≤ x) : Rising (lockStep l x) x := by
  have h0 : Rising l x := ⟨h.pos, h.up, fun i hi => Int.le_trans (h.top i hi) hx⟩
  unfold lockStep
  split
  · exact h0
  · split
    · exact h0
    · rename_i h1 h2
      refine ⟨fun i hi => ?_, fun i hi => ?_, fun i hi => ?_⟩
      · rw [getD_snoc]
        rw [List.length_append] at hi
        simp at hi
        split
        · exact h.pos i (by assumption)
        · rw [if_pos (by omega)]; omega
      · rw [getD_snoc, getD_snoc]
        rw [List.length_append] at hi
        simp at hi
        rw [if_pos hi]
        by_cases hl : i + 1 < l.length
        · rw [if_pos hl]; exact h.up i hl
        · rw [if_neg hl, if_pos (by omega)]
          have h3 : l.getD i 0 ≤ x := h0.top i hi
          have h4 : l.getD i 0 ≠ x := fun e => h2 ⟨by omega, by rw [show l.length - 1 = i by omega]; exact e⟩
          omega
      · rw [getD_snoc]
        rw [List.length_append] at hi
        simp at hi
        split
        · exact h0.top i (by assumption)
        · rw [if_pos (by omega)]; exact Int.le_refl _

theorem rising_to {s : List Int} (hs : s.Pairwise (· ≤ ·)) : ∀ k, k ≤ s.length → ∃ u, Rising (locksTo s k) u ∧ (∀ j, k ≤ j → j < s.length → u ≤ s.getD j 0) := by
  intro k
  induction k with
  | zero =>
    intro _
    rw [locksTo_zero]
    by_cases h0 : 0 < s.length
    · refine ⟨s.getD 0 0, ⟨fun i hi => by simp at hi, fun i hi => by simp at hi, fun i hi => by simp at hi⟩, fun j _ hj => ?_⟩
      by_cases hj0 : j = 0
      · rw [hj0]; exact Int.le_refl _
      · have := List.pairwise_iff_getElem.1 hs 0 j h0 hj (by omega)
        simpa [List.getD, h0, hj] using this
    · exact ⟨0, ⟨fun i hi => by simp at hi, fun i hi => by simp at hi, fun i hi => by simp at hi⟩, fun j _ hj => by omega⟩
  | succ k ih =>
    intro hk
    obtain ⟨u, hr, hu⟩ := ih (by omega)
    rw [locksTo_succ s k (by omega)]
    refine ⟨s.getD k 0, rising_step hr (hu k (Nat.le_refl _) (by omega)), fun j hj hjl => ?_⟩
    have := List.pairwise_iff_getElem.1 hs k j (by omega) hjl (by omega)
    simpa [List.getD, show k < s.length by omega, hjl] using this

theorem locksI_rising (zs : List Int) : ∃ u, Rising (locksI zs) u := by
  obtain ⟨u, h, _⟩ := rising_to (sortI_sorted zs) zs.length (by rw [length_sortI]; exact Nat.le_refl _)
  exact ⟨u, h⟩
theorem locksI_reverse (zs : List Int) : locksI zs.reverse = locksI zs := by
  unfold locksI
  rw [List.length_reverse, ← sortI_of ((sortI_perm zs.reverse).trans (List.reverse_perm zs)) (sortI_sorted _)]
theorem length_locksI (zs : List Int) : (locksI zs).length ≤ zs.length := length_locksTo _ _

set_option maxHeartbeats 1000000 in
theorem orderLocks_walk (zs : List Int) (n : Nat) (hn : n = zs.length) (a : Option Addr) (c : Nat) (w : World) (h : Rd .i64 w a zs) :
    Calls Try.prog 8 #[.slice a n c] w fun e w' => e = .returned (.bool true) ∧ Below w.heap.size w w' := by
  have hl1 := h.len
  rw [← hn] at hl1
  have Hn := Lib.hid hn; clear hn
  have H1 := Lib.hid h; clear h
  go_enter Try.func8, Try.ntmps8
  go_wp2_with fail
  refine (order_alive _).mono ?_
  rintro e w1 ⟨rfl, hb⟩
  have HB := Lib.hid hb; clear hb
  by_cases h100 : 200 < n
  · go_wp2
    go_ret
    exact ⟨rfl, HB.out⟩
  have hle : n ≤ 1000 := by omega
  go_wp2_with fail
  refine (locks_any zs n Hn.out a c _ (H1.out.below HB.out (Nat.le_refl _)) hle).mono ?_
  intro e w2 hF
  have hll := length_locksI zs
  obtain ⟨a2, c2, rfl, r2, b2, hb2⟩ := fresh_use HB.out hF (by rw [← Hn.out] at hll; omega)
  obtain ⟨u, hris⟩ := locksI_rising zs
  obtain ⟨L, hL⟩ : ∃ L, L = locksI zs := ⟨_, rfl⟩
  rw [← hL] at hris r2 hll
  rw [← hL]
  obtain ⟨m, hm⟩ : ∃ m, m = L.length := ⟨_, rfl⟩
  rw [← hm, ← Hn.out] at hll
  rw [← hm]
  have HL := Lib.hid hL
  have Hm := Lib.hid hm
  have HB2 := Lib.hid hb2
  have R2 := Lib.hid r2
  have HR := Lib.hid hris
  clear hF r2 b2 hb2 HB hL hm hris
  go_wp2
  go_loop [4, 5, 15] (fun _ _ i => ∃ k : Nat, k ≤ m ∧ i = .int .i64 k) (fun _ _ i => m - (intOf i).toNat)
  case atStart => exact ⟨0, Nat.zero_le _, rfl⟩
  case round =>
    obtain ⟨k, hk, rfl⟩ := hrel
    by_cases hlt : k < m
    · obtain ⟨b, off, rfl, hc⟩ := R2.out.2 (by rw [← Hm.out]; omega)
      have ck := hc k (by rw [← Hm.out]; exact hlt)
      obtain ⟨x, hx⟩ := named (L.getD k 0)
      have hx1 : 1 ≤ x := by rw [hx.out]; exact HR.out.pos k (by rw [← Hm.out]; exact hlt)
      rw [← hx.out] at ck
      by_cases hk0 : k = 0
      · subst hk0
        rw [Nat.add_zero] at ck
        clear hc
        go_wp2
        go_round
        case rel => exact ⟨1, by omega, by go_num⟩
        case measure => simp [intOf]; omega
      · have cp := hc (k - 1) (by rw [← Hm.out]; omega)
        obtain ⟨y, hy⟩ := named (L.getD (k - 1) 0)
        have hxy : y < x := by
          rw [hx.out, hy.out]
          have := HR.out.up (k - 1) (by rw [← Hm.out]; omega)
          rwa [show k - 1 + 1 = k by omega] at this
        rw [← hy.out] at cp
        have p0 : 0 < (k : Int) := by omega
        have p1 : (0 : Int) ≤ (k : Int) - 1 := by omega
        have p2 : (k : Int) - 1 < (m : Int) := by omega
        have p3 : ((k : Int) - 1).toNat = k - 1 := by omega
        clear hc
        go_wp2
        go_round
        case rel => exact ⟨k + 1, by omega, by go_num⟩
        case measure => simp [intOf]; omega
    · clear hk
      go_wp2_with fail
      refine (rlocks_any zs n Hn.out a c _ (H1.out.below HB2.out (Nat.le_refl _)) hle).mono ?_
      intro e w3 hF
      rw [← HL.out] at hF
      obtain ⟨a3, c3, rfl, r3, b3, hb3⟩ := fresh_use HB2.out hF (by rw [← Hm.out]; omega)
      rw [← Hm.out]
      have HB3 := Lib.hid hb3
      have R3 := Lib.hid r3
      have R23 := Lib.hid (R2.out.below b3 (Nat.le_refl _))
      clear hF r3 b3 hb3 HB2 R2
      go_wp2_with fail
      refine (same_yes L m Hm.out _ _ _ _ _ R23.out R3.out).mono ?_
      rintro e w4 ⟨rfl, q, hq⟩
      have HB4 : Hid (Below w.heap.size w w4) := by show Below _ _ _; rw [hq]; exact below_drewN HB3.out q
      have R24 : Hid (Rd .i64 w4 a2 L) := by show Rd _ _ _ _; rw [hq]; exact R23.out.drewN q
      clear hq HB3 R3 R23
      go_wp2_with fail
      refine (rturned_any zs n Hn.out a c _ (H1.out.below HB4.out (Nat.le_refl _)) hle).mono ?_
      intro e w5 hF
      obtain ⟨a5, c5, rfl, r5, b5, hb5⟩ := fresh_use HB4.out hF (by rw [List.length_reverse, ← Hn.out]; omega)
      rw [List.length_reverse, ← Hn.out]
      have HB5 := Lib.hid hb5
      have R5 := Lib.hid r5
      have R25 := Lib.hid (R24.out.below b5 (Nat.le_refl _))
      clear hF r5 b5 hb5 HB4 R24
      go_wp2_with fail
      refine (locks_any zs.reverse n (by rw [List.length_reverse]; exact Hn.out) _ _ _ R5.out hle).mono ?_
      intro e w6 hF
      rw [locksI_reverse, ← HL.out] at hF
      obtain ⟨a6, c6, rfl, r6, b6, hb6⟩ := fresh_use HB5.out hF (by rw [← Hm.out]; omega)
      rw [← Hm.out]
      have HB6 := Lib.hid hb6
      have R6 := Lib.hid r6
      have R26 := Lib.hid (R25.out.below b6 (Nat.le_refl _))
      clear hF r6 b6 hb6 HB5 R25
      go_wp2_with fail
      refine (same_yes L m Hm.out _ _ _ _ _ R26.out R6.out).mono ?_
      rintro e w8 ⟨rfl, q, hq⟩
      have HB8 : Hid (Below w.heap.size w w8) := by show Below _ _ _; rw [hq]; exact below_drewN HB6.out q
      clear hq HB6 R6 R26
      go_wp2
      go_ret
      exact ⟨rfl, HB8.out⟩
end Go.Proofs.Yteffilepolbgbaa
