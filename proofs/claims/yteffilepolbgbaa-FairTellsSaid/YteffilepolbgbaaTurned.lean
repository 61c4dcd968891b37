/- order.Turned, handoffref03.Turned: the same list from its end on, in new memory. -/
import Derived.Test.YteffilepolbgbaaSort
import Derived.Test.YteffilepolbgbaaApp
namespace Go.Proofs.Yteffilepolbgbaa
open Go.RowKit
set_option linter.unusedVariables false

def turnTo (zs : List Int) (n k : Nat) : List Int := List.replicate (n - k) 0 ++ (zs.take k).reverse
theorem turnTo_zero (zs : List Int) (n : Nat) : turnTo zs n 0 = List.replicate n 0 := by simp [turnTo]
theorem turnTo_all (zs : List Int) : turnTo zs zs.length zs.length = zs.reverse := by simp [turnTo]
theorem length_turnTo (zs : List Int) (n k : Nat) (h : n = zs.length) (hk : k ≤ n) : (turnTo zs n k).length = n := by
  simp [turnTo]; omega
theorem turnTo_succ (zs : List Int) (n k : Nat) (h : n = zs.length) (hk : k < n) : turnTo zs n (k + 1) = (turnTo zs n k).set (n - 1 - k) (zs.getD k 0) := by
  have hk' : k < zs.length := by omega
  unfold turnTo
  rw [List.take_succ_eq_append_getElem hk', List.reverse_append]
  have e1 : n - k = (n - 1 - k) + 1 := by omega
  have e2 : n - (k + 1) = n - 1 - k := by omega
  rw [e1, e2, List.replicate_succ', List.append_assoc, List.set_append_right _ _ (by simp)]
  simp [List.getD, hk']

set_option maxHeartbeats 1000000 in
theorem turned_any (zs : List Int) (n : Nat) (hn : n = zs.length) (a : Option Addr) (c : Nat) (w : World) (h : Rd .i64 w a zs) (hs : n ≤ 1000) :
    Calls Try.prog 44 #[.slice a n c] w (FreshI w zs.reverse) := by
  obtain ⟨i0, hi, hz0, hz1, hz2⟩ := info_parts Try.info3
  have Hn := Lib.hid hn; clear hn
  have H1 := Lib.hid h; clear h
  go_enter Try.func44, Try.ntmps44
  go_wp2_with (at_make; go_loud (refine wpList_make_full _ rfl _ _ 23 rfl w.heap.size 3 i0 (.int .i64 0) 1 Try.underlying23 hi hz0 hz1 _ _ _ _ n rfl rfl rfl rfl (by rw [hz2]; omega) (by unfold maxLen; omega) (Nat.le_refl _) ?_))
  intro w1 hown hgrow
  have hb1 : Below w.heap.size w w1 := (Below.refl _ _).grown hgrow (Nat.le_refl _) (by intro k hk; cases hk)
  rw [toList_madeCells_one] at hown
  have ho : Hid (w1.ownsRow w.heap.size 3 1 (.slice (some ⟨w.heap.size, 0, none⟩) n n) n ((turnTo zs n 0).map (Value.int .i64))) := by
    show _
    rw [turnTo_zero, List.map_replicate]; exact hown
  clear hown hgrow
  go_wp2
  go_loopw [4, 5, 11] (fun _ _ i wr => ∃ k : Nat, k ≤ n ∧ i = .int .i64 k ∧ Hid (wr.ownsRow w.heap.size 3 1 (.slice (some ⟨w.heap.size, 0, none⟩) n n) n ((turnTo zs n k).map (Value.int .i64))) ∧ Hid (Below w.heap.size w wr)) (fun _ _ i _ => n - (intOf i).toNat)
  case atStart => exact ⟨0, Nat.zero_le _, rfl, ho, hb1⟩
  case round =>
    clear ho hb1
    obtain ⟨k, hk, rfl, ho, hb⟩ := hrel
    by_cases hlt : k < n
    · obtain ⟨b, off, rfl, hc⟩ := (H1.out.below hb.out (Nat.le_refl _)).at k (by rw [← Hn.out]; exact hlt)
      obtain ⟨x, hx⟩ := named (zs.getD k 0)
      rw [← hx.out] at hc
      have hlen := length_turnTo zs n k Hn.out hk
      have co := ho.out.cellAt (n - 1 - k) (by omega)
      obtain ⟨y, hy⟩ : ∃ y, ((turnTo zs n k).map (Value.int .i64))[n - 1 - k]? = some y := ⟨_, List.getElem?_eq_getElem (by rw [List.length_map, hlen]; omega)⟩
      rw [hy] at co
      have fo := ho.out.frozenAt (n - 1 - k)
      have p1 : (0 : Int) ≤ (n : Int) - 1 - k := by omega
      have p2 : (n : Int) - 1 - k < n := by omega
      have p3 : ((n : Int) - 1 - k).toNat = n - 1 - k := by omega
      clear hlen hy
      go_wp2
      go_roundw
      case rel =>
        refine ⟨k + 1, by omega, by go_num, ?_, hb.out.setCell (Nat.le_refl _) _⟩
        show World.ownsRow _ _ _ _ _ _ _
        rw [turnTo_succ zs n k Hn.out hlt, ← hx.out, List.map_set]
        exact (ho.out.stored _ _).1
      case measure => simp [intOf]; omega
    · obtain rfl : k = n := by omega
      go_wp2
      go_ret
      refine ⟨_, rfl, ?_, hb.out⟩
      have h1 := ho.out
      unfold OwnI
      rw [Hn.out, turnTo_all, ← Hn.out] at h1
      rw [List.length_reverse, ← Hn.out]
      exact h1

theorem drop_rev (zs : List Int) (s : Nat) (h : s < zs.length) : (zs.drop s).reverse = (zs.drop (s + 1)).reverse ++ [zs.getD s 0] := by
  rw [List.drop_eq_getElem_cons h, List.reverse_cons]
  simp [List.getD, h]

theorem own_shape {B e n : Nat} {w : World} {v : Value} {xs : List Value} (h : w.ownsRow B e 1 v n xs) (hn : v ≠ .slice none 0 0) :
    ∃ g cap, v = .slice (some ⟨g, 0, none⟩) n cap ∧ B ≤ g ∧ g < w.heap.size ∧ n ≤ cap := by
  rcases h.2 with ⟨rfl, h0⟩ | ⟨g, cap, cur, rfl, hB, hg, hc, _⟩
  · exact absurd rfl hn
  · exact ⟨g, cap, rfl, hB, (Array.getElem?_eq_some_iff.1 hg).1, hc⟩

set_option maxHeartbeats 1000000 in
theorem rturned_any (zs : List Int) (n : Nat) (hn : n = zs.length) (a : Option Addr) (c : Nat) (w : World) (h : Rd .i64 w a zs) (hs : n ≤ 1000) :
    Calls Try.prog 31 #[.slice a n c] w (FreshI w zs.reverse) := by
  obtain ⟨i0, hi, hz0, hz1, hz2⟩ := info_parts Try.info3
  have Hn := Lib.hid hn; clear hn
  have H1 := Lib.hid h; clear h
  have ho : Hid ((w.alloc (.cells #[] 3)).ownsRow w.heap.size 3 1 (.slice (some ⟨w.heap.size, 0, none⟩) 0 0) 0 ((zs.drop n).reverse.map (Value.int .i64))) := by
    show World.ownsRow _ _ _ _ _ _ _
    rw [Hn.out, List.drop_length]
    exact World.ownsRow_lit w #[] 0 (Nat.le_refl _) (by unfold maxLen; omega) rfl
  have hb : Hid (Below w.heap.size w (w.alloc (.cells #[] 3))) := (Below.refl _ _).alloc (Nat.le_refl _) _
  go_enter Try.func31, Try.ntmps31
  go_wp2
  go_loopw [3, 4] (fun v i wr => ∃ (e : Int) (s g cap : Nat), i = .int .i64 e ∧ e + 1 = s ∧ s ≤ n ∧ v = .slice (some ⟨g, 0, none⟩) (n - s) cap ∧ Hid (wr.ownsRow w.heap.size 3 1 (.slice (some ⟨g, 0, none⟩) (n - s) cap) (n - s) ((zs.drop s).reverse.map (Value.int .i64))) ∧ Hid (Below w.heap.size w wr)) (fun _ i _ => (intOf i + 1).toNat)
  case atStart => exact ⟨_, n, _, _, rfl, by omega, Nat.le_refl _, by rw [Nat.sub_self], by rw [Nat.sub_self]; exact ho, hb⟩
  case round =>
    clear ho hb
    obtain ⟨e, s, g, cap, rfl, hes, hsn, rfl, ho, hb⟩ := hrel
    have Hes := Lib.hid hes
    by_cases hpos : 0 ≤ e
    · obtain ⟨t, rfl⟩ := Int.eq_ofNat_of_zero_le hpos
      obtain rfl : s = t + 1 := by omega
      obtain ⟨b, off, rfl, hc⟩ := (H1.out.below hb.out (Nat.le_refl _)).at t (by rw [← Hn.out]; omega)
      obtain ⟨x, hx⟩ := named (zs.getD t 0)
      rw [← hx.out] at hc
      have hlt : t < n := by omega
      have hBs := hb.out.size
      clear hes hpos
      go_wp2_with (at_builtin; go_loud (refine wpList_append_own _ rfl (.tmp 13) (.tmp 18) 23 rfl w.heap.size 3 i0 (.int .i64 0) 1 8 Try.underlying23 hi hz0 hz1 hz2 rfl (by decide) _ _ _ rfl (ho.out.alloc _) ⟨wr.heap.size, 0, none⟩ 1 1 [.int .i64 x] rfl rfl (cell_one_new _ _ _) (by intro u hu; simp at hu; subst hu; rfl) (by unfold maxLen; omega) (by omega) (by simp; omega) ?_))
      intro v' w2 hown hgrow hnil
      obtain ⟨g', cap', rfl, hg1, hg2, hg3⟩ := own_shape hown (fun e => by simp [e] at hnil)
      have hb2 : Hid (Below w.heap.size w w2) := (hb.out.alloc hBs _).grown hgrow (by simp; omega) (by intro k hk; simp [Value.ownBlock] at hk; have := (ho.out.lt g rfl).1; omega)
      have ho2 : Hid (w2.ownsRow w.heap.size 3 1 (.slice (some ⟨g', 0, none⟩) (n - t) cap') (n - t) ((zs.drop t).reverse.map (Value.int .i64))) := by
        show World.ownsRow _ _ _ _ _ _ _
        rw [drop_rev zs t (by rw [← Hn.out]; exact hlt), ← hx.out, List.map_append]
        have e1 : n - (t + 1) + 1 = n - t := by omega
        rw [e1] at hown
        simpa using hown
      have e1 : n - (t + 1) + 1 = n - t := by omega
      clear hown hgrow hnil ho hb
      rw [e1]
      clear e1
      go_wp2
      go_roundw
      case rel => exact ⟨_, t, g', cap', rfl, by omega, by omega, rfl, ho2, hb2⟩
      case measure => simp [intOf]
    · obtain rfl : s = 0 := by omega
      go_wp2
      go_ret
      refine ⟨_, rfl, ?_, hb.out⟩
      unfold OwnI
      rw [List.length_reverse, ← Hn.out]
      exact ho.out
end Go.Proofs.Yteffilepolbgbaa
