/- The law OrderKeeps, walked. -/
import Derived.Test.YteffilepolbgbaaLawOrder
namespace Go.Proofs.Yteffilepolbgbaa
open Go.RowKit
set_option linter.unusedVariables false

def cnt (x : Int) (l : List Int) : Nat := l.count x
theorem cnt_succ (x : Int) (zs : List Int) (k : Nat) (h : k < zs.length) : cnt x (zs.take (k + 1)) = cnt x (zs.take k) + if zs.getD k 0 = x then 1 else 0 := by
  unfold cnt
  rw [List.take_succ_eq_append_getElem h, List.count_append]
  have : zs.getD k 0 = zs[k] := by simp [List.getD, h]
  rw [this]
  by_cases hx : zs[k] = x <;> simp [hx]
theorem cnt_le (x : Int) (l : List Int) : cnt x l ≤ l.length := List.count_le_length
theorem cnt_sort (x : Int) (zs : List Int) : cnt x (sortI zs) = cnt x zs := (sortI_perm zs).count_eq x

theorem heap_rev_sort (zs : List Int) : heapB (sortI zs).reverse = true := by
  refine heapB_true fun c hc h1 => ?_
  have hs := sortI_sorted zs
  rw [List.length_reverse] at hc
  have e : ∀ i, i < (sortI zs).length → (sortI zs).reverse.getD i 0 = (sortI zs).getD ((sortI zs).length - 1 - i) 0 := by
    intro i hi
    rw [List.getD_eq_getElem?_getD, List.getD_eq_getElem?_getD, List.getElem?_reverse hi]
  rw [e c hc, e ((c - 1) / 2) (by omega)]
  have := List.pairwise_iff_getElem.1 hs ((sortI zs).length - 1 - c) ((sortI zs).length - 1 - (c - 1) / 2) (by omega) (by omega) (by omega)
  simpa [List.getD, show (sortI zs).length - 1 - c < (sortI zs).length by omega, show (sortI zs).length - 1 - (c - 1) / 2 < (sortI zs).length by omega] using this

theorem sort_sort (zs : List Int) : sortI (sortI zs) = sortI zs := (sortI_of (.refl _) (sortI_sorted zs)).symm

set_option maxHeartbeats 2000000 in
theorem orderKeeps_walk (zs : List Int) (n : Nat) (hn : n = zs.length) (a : Option Addr) (c : Nat) (x : Int) (w : World) (h : Rd .i64 w a zs) :
    Calls Try.prog 11 #[.slice a n c, .int .i64 x] w fun e w' => e = .returned (.bool true) ∧ Below w.heap.size w w' := by
  obtain ⟨i0, hi, hz0, hz1, hz2⟩ := info_parts Try.info3
  have hl1 := h.len
  rw [← hn] at hl1
  have Hn := Lib.hid hn; clear hn
  have H1 := Lib.hid h; clear h
  go_enter Try.func11, Try.ntmps11
  go_wp2_with fail
  refine (order_alive _).mono ?_
  rintro e w1 ⟨rfl, hb⟩
  have HB := Lib.hid hb; clear hb
  by_cases h100 : 200 < n
  · go_wp2
    go_ret
    exact ⟨rfl, HB.out⟩
  have hle : n ≤ 1000 := by omega
  have hBa : Below w.heap.size w (w1.alloc (.cells #[] 3)) := HB.out.alloc HB.out.size _
  go_wp2_with (at_builtin; go_loud (refine wpList_append_src rfl (.tmp 17) (.tmp 18) 23 rfl w.heap.size 3 i0 (.int .i64 0) 8 Try.underlying23 hi hz0 hz1 hz2 rfl _ 0 [] rfl (World.ownsRow_lit w1 #[] 0 HB.out.size (by unfold maxLen; omega) rfl) a n c (zs.map (Value.int .i64)) rfl (by simp [Hn.out]) ((H1.out.below hBa (Nat.le_refl _)).src Hn.out) (ints_oneCell _ _) (by unfold maxLen; omega) (by omega) hBa.size ?_))
  intro v w2 hown hgrow hnil
  have hb2 : Below w.heap.size w w2 := hBa.grown hgrow hBa.size (by intro k hk; have := HB.out.size; simp [Value.ownBlock] at hk; omega)
  have hown' : OwnI w.heap.size w2 v zs := by unfold OwnI; rw [← Hn.out]; simpa using hown
  obtain ⟨aw, cw, rfl, rw2⟩ := hown'.rd (by rw [← Hn.out]; omega)
  rw [← Hn.out]
  have HB2 := Lib.hid hb2
  have RW := Lib.hid rw2
  clear hown hgrow hnil hb2 hBa hown' HB rw2
  go_wp2_with fail
  refine (sort_any zs n Hn.out a c _ (H1.out.below HB2.out (Nat.le_refl _)) hle).mono ?_
  intro e w3 hF
  obtain ⟨a2, c2, rfl, r2, b2, hb3⟩ := fresh_use HB2.out hF (by rw [length_sortI, ← Hn.out]; omega)
  rw [length_sortI, ← Hn.out]
  obtain ⟨s, hs⟩ : ∃ s, s = sortI zs := ⟨_, rfl⟩
  rw [← hs] at r2
  have hsl : s.length = n := by rw [hs, length_sortI, ← Hn.out]
  have Hs := Lib.hid hs
  have Hsl := Lib.hid hsl
  have HB3 := Lib.hid hb3
  have R2 := Lib.hid r2
  have RW3 := Lib.hid (RW.out.below b2 (Nat.le_refl _))
  have R13 := Lib.hid (H1.out.below hb3 (Nat.le_refl _))
  clear hF r2 b2 hb3 HB2 RW hs hsl
  go_wp2
  go_loop [7, 9, 24] (fun t _ i => ∃ k : Nat, k ≤ n ∧ i = .int .i64 k ∧ t = .int .i64 (cnt x (zs.take k))) (fun _ _ i => n - (intOf i).toNat)
  case atStart => exact ⟨0, Nat.zero_le _, rfl, by simp [cnt]⟩
  case round =>
    obtain ⟨k, hk, rfl, rfl⟩ := hrel
    have hcl : cnt x (zs.take k) ≤ n := by have := cnt_le x (zs.take k); rw [List.length_take] at this; omega
    by_cases hlt : k < n
    · obtain ⟨b, off, rfl, hc⟩ := R13.out.at k (by rw [← Hn.out]; exact hlt)
      obtain ⟨y, hy⟩ := named (zs.getD k 0)
      rw [← hy.out] at hc
      have hsu := cnt_succ x zs k (by rw [← Hn.out]; exact hlt)
      rw [← hy.out] at hsu
      by_cases hyx : y = x
      · rw [if_pos hyx] at hsu
        have Hsu := Lib.hid hsu
        subst hyx
        clear hsu
        go_wp2
        go_round
        case rel => exact ⟨k + 1, by omega, by go_num, by rw [Hsu.out]; go_num⟩
        case measure => simp [intOf]; omega
      · rw [if_neg hyx, Nat.add_zero] at hsu
        have Hsu := Lib.hid hsu
        have hyx1 : (y == x) = false := by simpa using hyx
        clear hsu
        go_wp2
        go_round
        case rel => exact ⟨k + 1, by omega, by go_num, by rw [Hsu.out]; rfl⟩
        case measure => simp [intOf]; omega
    · obtain rfl : k = n := by omega
      clear hlt hk
      have e0 : cnt x (zs.take k) = cnt x zs := by rw [List.take_of_length_le (by rw [← Hn.out]; exact Nat.le_refl _)]
      rw [e0]
      rw [e0] at hcl
      obtain ⟨T, hT⟩ : ∃ T, T = cnt x zs := ⟨_, rfl⟩
      rw [← hT]
      rw [← hT] at hcl
      have HT := Lib.hid hT
      clear hT e0
      go_wp2
      go_loop [7, 11, 36] (fun t _ i => ∃ j : Nat, j ≤ k ∧ i = .int .i64 j ∧ t = .int .i64 ((T : Int) - cnt x (s.take j))) (fun _ _ i => k - (intOf i).toNat)
      case atStart => exact ⟨0, Nat.zero_le _, rfl, by simp [cnt]⟩
      case round =>
        obtain ⟨j, hj, rfl, rfl⟩ := hrel
        have hcl2 : cnt x (s.take j) ≤ k := by have := cnt_le x (s.take j); rw [List.length_take] at this; omega
        by_cases hlt : j < k
        · obtain ⟨b, off, rfl, hc⟩ := R2.out.at j (by rw [Hsl.out]; exact hlt)
          obtain ⟨y, hy⟩ := named (s.getD j 0)
          rw [← hy.out] at hc
          have hsu := cnt_succ x s j (by rw [Hsl.out]; exact hlt)
          rw [← hy.out] at hsu
          by_cases hyx : y = x
          · rw [if_pos hyx] at hsu
            have Hsu := Lib.hid hsu
            subst hyx
            clear hsu
            go_wp2
            go_round
            case rel => exact ⟨j + 1, by omega, by go_num, by rw [Hsu.out]; go_num⟩
            case measure => simp [intOf]; omega
          · rw [if_neg hyx, Nat.add_zero] at hsu
            have Hsu := Lib.hid hsu
            have hyx1 : (y == x) = false := by simpa using hyx
            clear hsu
            go_wp2
            go_round
            case rel => exact ⟨j + 1, by omega, by go_num, by rw [Hsu.out]; rfl⟩
            case measure => simp [intOf]; omega
        · obtain rfl : j = k := by omega
          have e0 : ((T : Int) - cnt x (s.take j)) = 0 := by
            rw [List.take_of_length_le (by rw [Hsl.out]; exact Nat.le_refl _), Hs.out, cnt_sort, HT.out]; omega
          rw [e0]
          clear e0 hcl2 hlt hj
          go_wp2_with fail
          refine (turned_any s j Hsl.out.symm _ _ _ R2.out hle).mono ?_
          intro e w6 hF
          obtain ⟨a6, c6, rfl, r6, b6, hb6⟩ := fresh_use HB3.out hF (by rw [List.length_reverse, Hsl.out]; omega)
          rw [List.length_reverse, Hsl.out]
          have HB6 := Lib.hid hb6
          have R6 := Lib.hid r6
          have R26 := Lib.hid (R2.out.below b6 (Nat.le_refl _))
          have RW6 := Lib.hid (RW3.out.below b6 (Nat.le_refl _))
          clear hF r6 b6 hb6 HB3 R2 RW3 R13
          have hh := fun W (hW : Rd .i64 W a6 s.reverse) => heap_any s.reverse j (by rw [List.length_reverse]; exact Hsl.out.symm) a6 c6 W hW hle
          rw [Hs.out, heap_rev_sort, ← Hs.out] at hh
          have HH := Lib.hid hh
          clear hh
          go_wp2_with fail
          refine (HH.out _ R6.out).mono ?_
          rintro e w7 ⟨rfl, q, hq⟩
          have HB7 : Hid (Below w.heap.size w w7) := by show Below _ _ _; rw [hq]; exact below_drewN HB6.out q
          have R27 : Hid (Rd .i64 w7 a2 s) := by show Rd _ _ _ _; rw [hq]; exact R26.out.drewN q
          have RW7 : Hid (Rd .i64 w7 aw zs) := by show Rd _ _ _ _; rw [hq]; exact RW6.out.drewN q
          clear hq HB6 R26 RW6 HH R6
          go_wp2_with fail
          refine (same_yes zs j Hn.out _ _ _ _ _ (H1.out.below HB7.out (Nat.le_refl _)) RW7.out).mono ?_
          rintro e w8 ⟨rfl, q, hq⟩
          have HB8 : Hid (Below w.heap.size w w8) := by show Below _ _ _; rw [hq]; exact below_drewN HB7.out q
          have R28 : Hid (Rd .i64 w8 a2 s) := by show Rd _ _ _ _; rw [hq]; exact R27.out.drewN q
          clear hq HB7 R27 RW7
          go_wp2_with fail
          refine (sort_any s j Hsl.out.symm _ _ _ R28.out hle).mono ?_
          intro e w9 hF
          rw [Hs.out, sort_sort, ← Hs.out] at hF
          obtain ⟨a9, c9, rfl, r9, b9, hb9⟩ := fresh_use HB8.out hF (by rw [Hsl.out]; omega)
          rw [Hsl.out]
          have HB9 := Lib.hid hb9
          have R9 := Lib.hid r9
          have R29 := Lib.hid (R28.out.below b9 (Nat.le_refl _))
          clear hF r9 b9 hb9 HB8 R28
          go_wp2_with fail
          refine (same_yes s j Hsl.out.symm _ _ _ _ _ R9.out R29.out).mono ?_
          rintro e w10 ⟨rfl, q, hq⟩
          have HB10 : Hid (Below w.heap.size w w10) := by show Below _ _ _; rw [hq]; exact below_drewN HB9.out q
          clear hq HB9 R9 R29
          go_wp2
          go_ret
          exact ⟨rfl, HB10.out⟩
end Go.Proofs.Yteffilepolbgbaa
