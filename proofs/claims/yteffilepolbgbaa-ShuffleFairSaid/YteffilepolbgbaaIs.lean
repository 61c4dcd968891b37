/- shuffle.Is, handoffref02.Is; handoffref02.Order. -/
import Derived.Test.YteffilepolbgbaaOrdMath2
import Derived.Test.YteffilepolbgbaaShuf
import Derived.Test.YteffilepolbgbaaTurned
namespace Go.Proofs.Yteffilepolbgbaa
open Go.RowKit
set_option linter.unusedVariables false

theorem Try.info4 : (Try.prog.info? 4).map (fun i => (i.zero, i.size, i.bytes)) = some (some (.bool false), 1, 1) := by kernel_rfl

/-- The world of a round. -/
structure IsW (B n : Nat) (zs : List Int) (w : World) (k : Nat) (wr : World) : Prop where
  own : wr.ownsRow B 4 1 (.slice (some ⟨B, 0, none⟩) n n) n ((seenL zs n k).map Value.bool)
  nodup : (zs.take k).Nodup
  range : ∀ i, i < k → 0 ≤ zs.getD i 0 ∧ zs.getD i 0 < n
  below : Below B w wr

set_option maxHeartbeats 1000000 in
theorem is_any (zs : List Int) (n : Nat) (hn : n = zs.length) (a : Option Addr) (c : Nat) (w : World) (h : Rd .i64 w a zs) (hs : n ≤ 1000) :
    Calls Try.prog 48 #[.slice a n c] w fun e w' => e = .returned (.bool (isB zs)) ∧ Below w.heap.size w w' := by
  obtain ⟨i0, hi, hz0, hz1, hz2⟩ := info_parts Try.info4
  obtain ⟨t, ht⟩ : ∃ t, t = isB zs := ⟨_, rfl⟩
  rw [← ht]
  have Ht := Lib.hid ht; clear ht
  have Hn := Lib.hid hn; clear hn
  have H1 := Lib.hid h; clear h
  go_enter Try.func48, Try.ntmps48
  go_wp2_with (at_make; go_loud (refine wpList_make_full _ rfl _ _ 40 rfl w.heap.size 4 i0 (.bool false) 1 Try.underlying40 hi hz0 hz1 _ _ _ _ n rfl rfl rfl rfl (by rw [hz2]; omega) (by unfold maxLen; omega) (Nat.le_refl _) ?_))
  intro w1 hown hgrow
  have hb1 : Below w.heap.size w w1 := (Below.refl _ _).grown hgrow (Nat.le_refl _) (by intro k hk; cases hk)
  rw [toList_madeCells_one] at hown
  have HW : Hid (IsW w.heap.size n zs w 0 w1) := ⟨by rw [seenL_zero, List.map_replicate]; exact hown, by simp, fun i hi => by omega, hb1⟩
  clear hown hgrow hb1
  go_wp2
  go_loopw [5, 11] (fun _ i wr => ∃ k : Nat, k ≤ n ∧ i = .int .i64 k ∧ Hid (IsW w.heap.size n zs w k wr)) (fun _ i _ => n - (intOf i).toNat)
  case atStart => exact ⟨0, Nat.zero_le _, rfl, HW⟩
  case round =>
    clear HW
    obtain ⟨k, hk, rfl, HW⟩ := hrel
    by_cases hlt : k < n
    · obtain ⟨b, off, rfl, hc⟩ := (H1.out.below HW.out.below (Nat.le_refl _)).at k (by rw [← Hn.out]; exact hlt)
      obtain ⟨x, hx⟩ := named (zs.getD k 0)
      rw [← hx.out] at hc
      have hkz : Hid (k < zs.length) := by show _; rw [← Hn.out]; exact hlt
      by_cases hx0 : x < 0
      · have hf : t = false := by rw [Ht.out]; exact isB_range hkz.out (.inl (by rw [← hx.out]; exact hx0))
        subst hf
        go_wp2
        go_ret
        exact ⟨rfl, HW.out.below⟩
      by_cases hxn : (n : Int) ≤ x
      · have hf : t = false := by rw [Ht.out]; exact isB_range hkz.out (.inr (by rw [← hx.out, ← Hn.out]; exact hxn))
        subst hf
        go_wp2
        go_ret
        exact ⟨rfl, HW.out.below⟩
      obtain ⟨y, rfl⟩ := Int.eq_ofNat_of_zero_le (by omega : 0 ≤ x)
      have hyn : y < n := by omega
      have cy : wr.cell? ⟨w.heap.size, y, none⟩ = some (.bool (decide ((y : Int) ∈ zs.take k))) := by
        rw [HW.out.own.cellAt y (by omega), List.getElem?_map, List.getElem?_eq_getElem (by rw [length_seenL]; exact hyn)]
        have := getD_seenL zs n k y hyn
        rw [List.getD_eq_getElem?_getD, List.getElem?_eq_getElem (by rw [length_seenL]; exact hyn)] at this
        simpa using this
      have fy := HW.out.own.frozenAt y
      by_cases hm : (y : Int) ∈ zs.take k
      · have hf : t = false := by rw [Ht.out]; exact isB_dup hkz.out (by rw [← hx.out]; exact hm)
        subst hf
        have e : decide ((y : Int) ∈ zs.take k) = true := decide_eq_true hm
        rw [e] at cy
        clear e hm
        go_wp2
        go_ret
        exact ⟨rfl, HW.out.below⟩
      · have e : decide ((y : Int) ∈ zs.take k) = false := decide_eq_false hm
        rw [e] at cy
        have HW' : Hid (IsW w.heap.size n zs w (k + 1) (wr.setCell ⟨w.heap.size, y, none⟩ (.bool true))) := by
          refine ⟨?_, nodup_next hkz.out HW.out.nodup (by rw [← hx.out]; exact hm), fun i hi => ?_, HW.out.below.setCell (Nat.le_refl _) _⟩
          · rw [seenL_succ zs n k y hkz.out hx.out.symm, List.map_set]
            exact (HW.out.own.stored _ _).1
          · by_cases hik : i = k
            · subst hik; rw [← hx.out]; omega
            · exact HW.out.range i (by omega)
        clear e hm
        go_wp2
        go_roundw
        case rel => exact ⟨k + 1, by omega, by go_num, HW'⟩
        case measure => simp [intOf]; omega
    · obtain rfl : k = n := by omega
      have hf : t = true := by
        rw [Ht.out]
        have h1 := HW.out.nodup
        have h2 := HW.out.range
        rw [Hn.out] at h1 h2
        exact isB_all h1 h2
      subst hf
      go_wp2
      go_ret
      exact ⟨rfl, HW.out.below⟩

set_option maxHeartbeats 1000000 in
theorem ris_any (zs : List Int) (n : Nat) (hn : n = zs.length) (a : Option Addr) (c : Nat) (w : World) (h : Rd .i64 w a zs) (hs : n ≤ 1000) :
    Calls Try.prog 49 #[.slice a n c] w fun e w' => e = .returned (.bool (isB zs)) ∧ w = w' := by
  obtain ⟨t, ht⟩ : ∃ t, t = isB zs := ⟨_, rfl⟩
  rw [← ht]
  have Ht := Lib.hid ht; clear ht
  have Hn := Lib.hid hn; clear hn
  have H1 := Lib.hid h; clear h
  go_enter Try.func49, Try.ntmps49
  go_wp2
  go_loop [3, 4, 6, 9] (fun _ _ _ i => ∃ k : Nat, k ≤ n ∧ i = .int .i64 k ∧ Hid (∀ i, i < k → cnt2 i zs = 1)) (fun _ _ _ i => n - (intOf i).toNat)
  case atStart => exact ⟨0, Nat.zero_le _, rfl, (fun i h => by omega : ∀ i, i < 0 → cnt2 (i : Nat) zs = 1)⟩
  case round =>
    obtain ⟨k, hk, rfl, HK⟩ := hrel
    by_cases hlt : k < n
    · go_wp2
      go_loop [4, 6, 14] (fun t _ i => ∃ j : Nat, j ≤ n ∧ i = .int .i64 j ∧ t = .int .i64 (cnt2 k (zs.take j))) (fun _ _ i => n - (intOf i).toNat)
      case atStart => exact ⟨0, Nat.zero_le _, rfl, by simp [cnt2]⟩
      case round =>
        obtain ⟨j, hj, rfl, rfl⟩ := hrel
        have hcl : cnt2 k (zs.take j) ≤ n := by have := cnt2_le k (zs.take j); rw [List.length_take] at this; omega
        by_cases hjn : j < n
        · obtain ⟨b, off, rfl, hc⟩ := H1.out.at j (by rw [← Hn.out]; exact hjn)
          obtain ⟨y, hy⟩ := named (zs.getD j 0)
          rw [← hy.out] at hc
          have hsu := cnt2_succ k zs j (by rw [← Hn.out]; exact hjn)
          rw [← hy.out] at hsu
          by_cases hyx : y = (k : Int)
          · rw [if_pos hyx] at hsu
            have Hsu := Lib.hid hsu
            subst hyx
            clear hsu
            go_wp2
            go_round
            case rel => exact ⟨j + 1, by omega, by go_num, by rw [Hsu.out]; go_num⟩
            case measure => simp [intOf]; omega
          · rw [if_neg hyx] at hsu
            have Hsu := Lib.hid hsu
            have hyx1 : (y == (k : Int)) = false := by simpa using hyx
            clear hsu
            go_wp2
            go_round
            case rel => exact ⟨j + 1, by omega, by go_num, by rw [Hsu.out]; rfl⟩
            case measure => simp [intOf]; omega
        · obtain rfl : j = n := by omega
          have e0 : cnt2 k (zs.take j) = cnt2 k zs := by rw [List.take_of_length_le (by rw [← Hn.out]; exact Nat.le_refl _)]
          rw [e0]
          rw [e0] at hcl
          obtain ⟨T, hT⟩ : ∃ T, T = cnt2 k zs := ⟨_, rfl⟩
          rw [← hT]
          rw [← hT] at hcl
          have HT := Lib.hid hT
          clear hT e0 hjn
          by_cases h1 : T = 1
          · subst h1
            have HK' : Hid (∀ i, i < k + 1 → cnt2 (i : Nat) zs = 1) := by
              intro i hi
              by_cases hik : i = k
              · subst hik; exact HT.out.symm
              · exact HK.out i (by omega)
            go_wp2
            go_round
            case rel => exact ⟨k + 1, by omega, by go_num, HK'⟩
            case measure => simp [intOf]; omega
          · have hf : t = false := by
              rw [Ht.out]
              cases hb : isB zs with
              | false => rfl
              | true => exact absurd (HT.out.trans (isB_count hb (by rw [← Hn.out]; exact hlt))) h1
            subst hf
            have hT1 : ((T : Int) != 1) = true := by simp; omega
            go_wp2
            go_ret
            exact ⟨rfl, rfl⟩
    · have hf : t = true := by
        rw [Ht.out]
        exact isB_of_count fun i hi => HK.out i (by rw [← Hn.out] at hi; omega)
      subst hf
      go_wp2
      go_ret
      exact ⟨rfl, rfl⟩

theorem ordN_eq (ds : List Int) : ∀ k, k ≤ ds.length → ordN ds k = ordL (ds.take k) := by
  intro k
  induction k with
  | zero => intro _; simp [ordN, ordL]
  | succ k ih =>
    intro h
    rw [List.take_succ_eq_append_getElem (by omega), ordL_snoc, ← ih (by omega)]
    unfold stepO
    rw [length_ordN]
    show swapL _ _ _ = _
    have : ds.getD k 0 = ds[k] := by simp [List.getD, show k < ds.length by omega]
    rw [this]
theorem ordN_all (ds : List Int) : ordN ds ds.length = ordL ds := by rw [ordN_eq ds _ (Nat.le_refl _), List.take_length]

theorem orderL_any (ds : List Int) (n : Nat) (hn : n = ds.length) (a : Option Addr) (ca : Nat) (w : World) (h : Rd .i64 w a ds) (hl : n ≤ 1000) :
    Calls Try.prog 23 #[.slice a n ca] w (FreshI w (ordL ds)) := by
  have := order_any ds n hn a ca w h hl
  rw [hn, ordN_all, ← hn] at this
  exact this
end Go.Proofs.Yteffilepolbgbaa
