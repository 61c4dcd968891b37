/- handoffref03.Sort hands back the numbers in order, in new memory. -/
import Derived.Test.YteffilepolbgbaaTurned
namespace Go.Proofs.Yteffilepolbgbaa
open Go.RowKit
set_option linter.unusedVariables false

/-- A number put ahead of the first greater one. -/
theorem ins_sorted {l : List Int} {x : Int} {k : Nat} (hs : l.Pairwise (· ≤ ·)) (hk : k ≤ l.length) (h1 : ∀ j, j < k → l.getD j 0 ≤ x) (h2 : k < l.length → x < l.getD k 0) :
    (l.take k ++ ([x] ++ l.drop k)).Pairwise (· ≤ ·) := by
  rw [List.pairwise_append]
  refine ⟨hs.sublist (List.take_sublist _ _), ?_, ?_⟩
  · rw [List.pairwise_append]
    refine ⟨List.pairwise_singleton _ _, hs.sublist (List.drop_sublist _ _), fun a ha b hb => ?_⟩
    simp at ha
    subst ha
    obtain ⟨i, hi, rfl⟩ := List.mem_iff_getElem.1 hb
    rw [List.getElem_drop]
    rw [List.length_drop] at hi
    have hlt := h2 (by omega)
    have e : l.getD k 0 = l[k] := by simp [List.getD, show k < l.length by omega]
    rw [e] at hlt
    by_cases h0 : i = 0
    · subst h0
      simp only [Nat.add_zero]; omega
    · have := List.pairwise_iff_getElem.1 hs k (k + i) (by omega) (by omega) (by omega)
      omega
  · intro a ha b hb
    obtain ⟨i, hi, rfl⟩ := List.mem_iff_getElem.1 ha
    rw [List.length_take] at hi
    rw [List.getElem_take]
    have hi' : i < l.length := by omega
    have e : l.getD i 0 = l[i] := by simp [List.getD, hi']
    have hix := h1 i (by omega)
    rw [e] at hix
    rw [List.mem_append] at hb
    rcases hb with hb | hb
    · simp at hb; subst hb; exact hix
    · obtain ⟨j, hj, rfl⟩ := List.mem_iff_getElem.1 hb
      rw [List.getElem_drop]
      rw [List.length_drop] at hj
      exact List.pairwise_iff_getElem.1 hs i (k + j) hi' (by omega) (by omega)
theorem ins_perm (l : List Int) (x : Int) (k : Nat) : (l.take k ++ ([x] ++ l.drop k)).Perm (l ++ [x]) := by
  have h1 : (l.take k ++ ([x] ++ l.drop k)).Perm (x :: l) := by
    have := List.perm_middle (l₁ := l.take k) (a := x) (l₂ := l.drop k)
    rwa [List.take_append_drop] at this
  exact h1.trans (by simpa using (List.perm_append_comm (l₁ := [x]) (l₂ := l)))

theorem ins_next {zs : List Int} {k j : Nat} {x : Int} (hk : k < zs.length) (hx : x = zs.getD k 0) (hj : j ≤ k) (h1 : ∀ i, i < j → (sortI (zs.take k)).getD i 0 ≤ x) (h2 : j < k → x < (sortI (zs.take k)).getD j 0) :
    (sortI (zs.take k)).take j ++ ([x] ++ (sortI (zs.take k)).drop j) = sortI (zs.take (k + 1)) := by
  have hlen : (sortI (zs.take k)).length = k := by rw [length_sortI, List.length_take]; omega
  refine sortI_of ?_ (ins_sorted (sortI_sorted _) (by omega) h1 (by rw [hlen]; exact h2))
  refine (ins_perm _ _ _).trans ?_
  rw [List.take_succ_eq_append_getElem hk]
  have : zs[k] = x := by rw [hx]; simp [List.getD, hk]
  rw [this]
  exact (sortI_perm _).append_right _

theorem own_base {B B' e n : Nat} {w : World} {v : Value} {xs : List Value} (h : w.ownsRow B e 1 v n xs) (hB : B' ≤ B) : w.ownsRow B' e 1 v n xs := by
  refine ⟨h.1, ?_⟩
  rcases h.2 with h0 | ⟨g, cap, cur, hv, hb, r⟩
  · exact .inl h0
  · exact .inr ⟨g, cap, cur, hv, by omega, r⟩

/-- The world of a round of the outer loop. -/
structure RS (B : Nat) (zs : List Int) (w : World) (k g cap : Nat) (wr : World) : Prop where
  own : wr.ownsRow B 3 1 (.slice (some ⟨g, 0, none⟩) k cap) k ((sortI (zs.take k)).map (Value.int .i64))
  below : Below B w wr

set_option maxHeartbeats 2000000 in
theorem rsort_any (zs : List Int) (n : Nat) (hn : n = zs.length) (a : Option Addr) (c : Nat) (w : World) (h : Rd .i64 w a zs) (hs : n ≤ 1000) :
    Calls Try.prog 41 #[.slice a n c] w (FreshI w (sortI zs)) := by
  obtain ⟨i0, hi, hz0, hz1, hz2⟩ := info_parts Try.info3
  have Hn := Lib.hid hn; clear hn
  have H1 := Lib.hid h; clear h
  have hr : Hid (RS w.heap.size zs w 0 w.heap.size 0 (w.alloc (.cells #[] 3))) := by
    refine ⟨?_, (Below.refl _ _).alloc (Nat.le_refl _) _⟩
    have : sortI (zs.take 0) = [] := by simp [sortI]
    rw [this]
    exact World.ownsRow_lit w #[] 0 (Nat.le_refl _) (by unfold maxLen; omega) rfl
  go_enter Try.func41, Try.ntmps41
  go_wp2
  go_loopw [3, 5, 6, 7, 11] (fun v _ _ _ i wr => ∃ (k g cap : Nat), k ≤ n ∧ i = .int .i64 k ∧ v = .slice (some ⟨g, 0, none⟩) k cap ∧ Hid (RS w.heap.size zs w k g cap wr)) (fun _ _ _ _ i _ => n - (intOf i).toNat)
  case atStart => exact ⟨0, _, _, Nat.zero_le _, rfl, rfl, hr⟩
  case round =>
    clear hr
    obtain ⟨k, g, cap, hk, rfl, rfl, HS⟩ := hrel
    by_cases hlt : k < n
    · obtain ⟨b, off, rfl, hc⟩ := (H1.out.below HS.out.below (Nat.le_refl _)).at k (by rw [← Hn.out]; exact hlt)
      obtain ⟨x, hx⟩ := named (zs.getD k 0)
      rw [← hx.out] at hc
      obtain ⟨zk, hzk⟩ : ∃ zk, zk = sortI (zs.take k) := ⟨_, rfl⟩
      have hlen : zk.length = k := by rw [hzk, length_sortI, List.length_take, ← Hn.out]; omega
      have Hzk := Lib.hid hzk
      have Hlen := Lib.hid hlen
      have hcap := (HS.out.own.2.resolve_left (by simp))
      have hkc : k ≤ cap := by
        obtain ⟨g', c', cur, he, _, _, hh, _⟩ := hcap
        simp at he; omega
      clear hzk hlen hcap
      obtain ⟨wo, hwo⟩ : ∃ wo : World, wo = wr := ⟨_, rfl⟩
      subst hwo
      go_wp2
      go_loop [6] (fun i => ∃ j : Nat, j ≤ k ∧ i = .int .i64 j ∧ Hid (∀ i, i < j → zk.getD i 0 ≤ x)) (fun i => k - (intOf i).toNat)
      case atStart => exact ⟨0, Nat.zero_le _, rfl, (fun i h => by omega : ∀ i, i < 0 → zk.getD i 0 ≤ x)⟩
      case round =>
        obtain ⟨j, hj, rfl, HJ⟩ := hrel
        have Ho : Hid (wo.ownsRow w.heap.size 3 1 (.slice (some ⟨g, 0, none⟩) k cap) k (zk.map (Value.int .i64))) := by
          show World.ownsRow _ _ _ _ _ _ _
          rw [Hzk.out]; exact HS.out.own
        by_cases hjk : j < k
        · obtain ⟨y, hy⟩ := named (zk.getD j 0)
          have cy := own_cell Ho.out j hjk
          rw [← hy.out] at cy
          have hjc : ¬ (cap = j) := by omega
          by_cases hyx : y ≤ x
          · have HJ' : Hid (∀ i, i < j + 1 → zk.getD i 0 ≤ x) := by
              intro i hi2
              by_cases h0 : i = j
              · subst h0; rw [← hy.out]; exact hyx
              · exact HJ.out i (by omega)
            go_wp2
            go_round
            case rel => exact ⟨j + 1, by omega, by go_num, HJ'⟩
            case measure => simp [intOf]; omega
          · have hq1 : ∀ W, Below wo.heap.size wo W → W.ownsRow w.heap.size 3 1 (.slice (some ⟨g, 0, none⟩) k cap) k (zk.map (Value.int .i64)) := fun W hW =>
              Ho.out.kept (row := none) ⟨hW.os, hW.tape, hW.output, hW.size, fun i hi _ => hW.block i hi⟩ (.inr (by simp [Value.ownBlock]))
            have HQ := Lib.hid hq1
            clear hq1
            have hB0 : Below wo.heap.size wo (wo.alloc (.cells #[] 3)) := (Below.refl _ _).alloc (Nat.le_refl _) _
            go_wp2_with (at_builtin; go_loud (refine wpList_append_src rfl (.tmp 29) (.tmp 32) 23 rfl wo.heap.size 3 i0 (.int .i64 0) 8 Try.underlying23 hi hz0 hz1 hz2 rfl _ 0 [] rfl (World.ownsRow_lit wo #[] 0 (Nat.le_refl _) (by unfold maxLen; omega) rfl) _ j _ ((zk.take j).map (Value.int .i64)) rfl (by rw [List.length_map, List.length_take, Hlen.out]; omega) ?src (ints_oneCell _ _) (by unfold maxLen; omega) (by omega) hB0.size ?_))
            case src =>
              intro _
              refine ⟨g, 0, by simp, fun i u hu => ?_⟩
              have hi2 : i < j := by
                have := (List.getElem?_eq_some_iff.1 hu).1
                simp at this; omega
              rw [Nat.zero_add, own_cell (HQ.out _ hB0) i (by omega)]
              rw [← hu]
              simp [List.getD, hi2, Hlen.out, show i < k by omega]
            intro v1 w2 hown1 hgrow1 hnil1
            obtain ⟨g1, cap1, rfl, hg1, hg1', hg1''⟩ := own_shape hown1 (fun e => by simp [e] at hnil1)
            have hB2 : Below wo.heap.size wo w2 := hB0.grown hgrow1 hB0.size (by intro q hq; simp [Value.ownBlock] at hq; omega)
            have hs2 := hB2.size
            have HB2 := Lib.hid hB2
            have HO1 := Lib.hid hown1
            clear hown1 hgrow1 hnil1 hB0 hB2
            go_wp2_with (at_builtin; go_loud (refine wpList_append_own _ rfl (.tmp 33) (.tmp 35) 23 rfl wo.heap.size 3 i0 (.int .i64 0) 1 8 Try.underlying23 hi hz0 hz1 hz2 rfl (by decide) _ _ _ rfl (HO1.out.alloc _) ⟨w2.heap.size, 0, none⟩ 1 1 [.int .i64 x] rfl rfl (cell_one_new _ _ _) (by intro u hu; simp at hu; subst hu; rfl) (by unfold maxLen; omega) (by omega) (by simp; omega) ?_))
            intro v2 w3 hown2 hgrow2 hnil2
            obtain ⟨g2, cap2, rfl, hg2, hg2', hg2''⟩ := own_shape hown2 (fun e => by simp [e] at hnil2)
            have hB3 : Below wo.heap.size wo w3 := (HB2.out.alloc hs2 _).grown hgrow2 (by simp; omega) (by intro q hq; simp [Value.ownBlock] at hq; omega)
            have hs3 := hB3.size
            have HB3 := Lib.hid hB3
            have HO2 := Lib.hid hown2
            clear hown2 hgrow2 hnil2 hB3 HB2 HO1
            go_wp2_with (at_builtin; go_loud (refine wpList_append_src rfl (.tmp 37) (.tmp 40) 23 rfl wo.heap.size 3 i0 (.int .i64 0) 8 Try.underlying23 hi hz0 hz1 hz2 rfl _ _ _ rfl HO2.out _ _ _ ((zk.drop j).map (Value.int .i64)) rfl (by simp [Hlen.out]) ?src2 (ints_oneCell _ _) (by unfold maxLen; omega) (by omega) hs3 ?_))
            case src2 =>
              intro h0
              refine ⟨g, j, by simp, fun i u hu => ?_⟩
              have hi2 : i < k - j := by
                have := (List.getElem?_eq_some_iff.1 hu).1
                simp [Hlen.out] at this; omega
              rw [own_cell (HQ.out _ HB3.out) (j + i) (by omega)]
              rw [← hu]
              simp [List.getD, Hlen.out, show j + i < k by omega]
            intro v3 w4 hown3 hgrow3 hnil3
            obtain ⟨g3, cap3, rfl, hg3, hg3', hg3''⟩ := own_shape hown3 (fun e => by simp [e] at hnil3)
            have hB4 : Below wo.heap.size wo w4 := HB3.out.grown hgrow3 hs3 (by intro q hq; simp [Value.ownBlock] at hq; omega)
            have hnx := ins_next (by rw [← Hn.out]; exact hlt) hx.out hj (by rw [← Hzk.out]; exact HJ.out) (by rw [← Hzk.out]; intro h; rw [← hy.out]; omega)
            have HN : Hid (RS w.heap.size zs w (k + 1) g3 cap3 w4) := by
              refine ⟨?_, HS.out.below.trans (hB4.mono HS.out.below.size)⟩
              rw [← hnx, ← Hzk.out]
              have e1 : j + 1 + (k - j) = k + 1 := by omega
              rw [e1] at hown3
              simpa using own_base hown3 HS.out.below.size
            have e1 : j + 1 + (k - j) = k + 1 := by omega
            rw [e1]
            clear hown3 hgrow3 hnil3 hB4 hnx e1
            go_wp2
            go_roundw
            case rel => exact ⟨k + 1, g3, cap3, by omega, by go_num, rfl, HN⟩
            case measure => simp [intOf]; omega
        · obtain rfl : j = k := by omega
          by_cases hjc : cap = j
          · have hq1 : ∀ W, Below wo.heap.size wo W → W.ownsRow w.heap.size 3 1 (.slice (some ⟨g, 0, none⟩) j cap) j (zk.map (Value.int .i64)) := fun W hW =>
              Ho.out.kept (row := none) ⟨hW.os, hW.tape, hW.output, hW.size, fun i hi _ => hW.block i hi⟩ (.inr (by simp [Value.ownBlock]))
            have HQ := Lib.hid hq1
            clear hq1
            have hB0 : Below wo.heap.size wo (wo.alloc (.cells #[] 3)) := (Below.refl _ _).alloc (Nat.le_refl _) _
            go_wp2_with (at_builtin; go_loud (refine wpList_append_src rfl (.tmp 29) (.tmp 32) 23 rfl wo.heap.size 3 i0 (.int .i64 0) 8 Try.underlying23 hi hz0 hz1 hz2 rfl _ 0 [] rfl (World.ownsRow_lit wo #[] 0 (Nat.le_refl _) (by unfold maxLen; omega) rfl) _ j _ ((zk.take j).map (Value.int .i64)) rfl (by rw [List.length_map, List.length_take, Hlen.out]; omega) ?src (ints_oneCell _ _) (by unfold maxLen; omega) (by omega) hB0.size ?_))
            case src =>
              intro _
              refine ⟨g, 0, by simp, fun i u hu => ?_⟩
              have hi2 : i < j := by
                have := (List.getElem?_eq_some_iff.1 hu).1
                simp at this; omega
              rw [Nat.zero_add, own_cell (HQ.out _ hB0) i (by omega)]
              rw [← hu]
              simp [List.getD, hi2, Hlen.out, show i < j by omega]
            intro v1 w2 hown1 hgrow1 hnil1
            obtain ⟨g1, cap1, rfl, hg1, hg1', hg1''⟩ := own_shape hown1 (fun e => by simp [e] at hnil1)
            have hB2 : Below wo.heap.size wo w2 := hB0.grown hgrow1 hB0.size (by intro q hq; simp [Value.ownBlock] at hq; omega)
            have hs2 := hB2.size
            have HB2 := Lib.hid hB2
            have HO1 := Lib.hid hown1
            clear hown1 hgrow1 hnil1 hB0 hB2
            go_wp2_with (at_builtin; go_loud (refine wpList_append_own _ rfl (.tmp 33) (.tmp 35) 23 rfl wo.heap.size 3 i0 (.int .i64 0) 1 8 Try.underlying23 hi hz0 hz1 hz2 rfl (by decide) _ _ _ rfl (HO1.out.alloc _) ⟨w2.heap.size, 0, none⟩ 1 1 [.int .i64 x] rfl rfl (cell_one_new _ _ _) (by intro u hu; simp at hu; subst hu; rfl) (by unfold maxLen; omega) (by omega) (by simp; omega) ?_))
            intro v2 w3 hown2 hgrow2 hnil2
            obtain ⟨g2, cap2, rfl, hg2, hg2', hg2''⟩ := own_shape hown2 (fun e => by simp [e] at hnil2)
            have hB3 : Below wo.heap.size wo w3 := (HB2.out.alloc hs2 _).grown hgrow2 (by simp; omega) (by intro q hq; simp [Value.ownBlock] at hq; omega)
            have hs3 := hB3.size
            have HB3 := Lib.hid hB3
            have HO2 := Lib.hid hown2
            clear hown2 hgrow2 hnil2 hB3 HB2 HO1
            go_wp2_with (at_builtin; go_loud (refine wpList_append_src rfl (.tmp 37) (.tmp 40) 23 rfl wo.heap.size 3 i0 (.int .i64 0) 8 Try.underlying23 hi hz0 hz1 hz2 rfl _ _ _ rfl HO2.out _ _ _ ((zk.drop j).map (Value.int .i64)) rfl (by simp [Hlen.out]) ?src2 (ints_oneCell _ _) (by unfold maxLen; omega) (by omega) hs3 ?_))
            case src2 =>
              intro h0
              exact absurd h0 (by simp)
            intro v3 w4 hown3 hgrow3 hnil3
            obtain ⟨g3, cap3, rfl, hg3, hg3', hg3''⟩ := own_shape hown3 (fun e => by simp [e] at hnil3)
            have hB4 : Below wo.heap.size wo w4 := HB3.out.grown hgrow3 hs3 (by intro q hq; simp [Value.ownBlock] at hq; omega)
            have hnx := ins_next (by rw [← Hn.out]; exact hlt) hx.out hj (by rw [← Hzk.out]; exact HJ.out) (by rw [← Hzk.out]; intro h; omega)
            have HN : Hid (RS w.heap.size zs w (j + 1) g3 cap3 w4) := by
              refine ⟨?_, HS.out.below.trans (hB4.mono HS.out.below.size)⟩
              rw [← hnx, ← Hzk.out]
              have e1 : j + 1 = j + 1 := by omega
              rw [e1] at hown3
              simpa using own_base hown3 HS.out.below.size
            have e1 : j + 1 = j + 1 := by omega
            rw [e1]
            clear hown3 hgrow3 hnil3 hB4 hnx e1
            go_wp2
            go_roundw
            case rel => exact ⟨j + 1, g3, cap3, by omega, by go_num, rfl, HN⟩
            case measure => simp [intOf]; omega
          · have hq1 : ∀ W, Below wo.heap.size wo W → W.ownsRow w.heap.size 3 1 (.slice (some ⟨g, 0, none⟩) j cap) j (zk.map (Value.int .i64)) := fun W hW =>
              Ho.out.kept (row := none) ⟨hW.os, hW.tape, hW.output, hW.size, fun i hi _ => hW.block i hi⟩ (.inr (by simp [Value.ownBlock]))
            have HQ := Lib.hid hq1
            clear hq1
            have hB0 : Below wo.heap.size wo (wo.alloc (.cells #[] 3)) := (Below.refl _ _).alloc (Nat.le_refl _) _
            go_wp2_with (at_builtin; go_loud (refine wpList_append_src rfl (.tmp 29) (.tmp 32) 23 rfl wo.heap.size 3 i0 (.int .i64 0) 8 Try.underlying23 hi hz0 hz1 hz2 rfl _ 0 [] rfl (World.ownsRow_lit wo #[] 0 (Nat.le_refl _) (by unfold maxLen; omega) rfl) _ j _ ((zk.take j).map (Value.int .i64)) rfl (by rw [List.length_map, List.length_take, Hlen.out]; omega) ?src (ints_oneCell _ _) (by unfold maxLen; omega) (by omega) hB0.size ?_))
            case src =>
              intro _
              refine ⟨g, 0, by simp, fun i u hu => ?_⟩
              have hi2 : i < j := by
                have := (List.getElem?_eq_some_iff.1 hu).1
                simp at this; omega
              rw [Nat.zero_add, own_cell (HQ.out _ hB0) i (by omega)]
              rw [← hu]
              simp [List.getD, hi2, Hlen.out, show i < j by omega]
            intro v1 w2 hown1 hgrow1 hnil1
            obtain ⟨g1, cap1, rfl, hg1, hg1', hg1''⟩ := own_shape hown1 (fun e => by simp [e] at hnil1)
            have hB2 : Below wo.heap.size wo w2 := hB0.grown hgrow1 hB0.size (by intro q hq; simp [Value.ownBlock] at hq; omega)
            have hs2 := hB2.size
            have HB2 := Lib.hid hB2
            have HO1 := Lib.hid hown1
            clear hown1 hgrow1 hnil1 hB0 hB2
            go_wp2_with (at_builtin; go_loud (refine wpList_append_own _ rfl (.tmp 33) (.tmp 35) 23 rfl wo.heap.size 3 i0 (.int .i64 0) 1 8 Try.underlying23 hi hz0 hz1 hz2 rfl (by decide) _ _ _ rfl (HO1.out.alloc _) ⟨w2.heap.size, 0, none⟩ 1 1 [.int .i64 x] rfl rfl (cell_one_new _ _ _) (by intro u hu; simp at hu; subst hu; rfl) (by unfold maxLen; omega) (by omega) (by simp; omega) ?_))
            intro v2 w3 hown2 hgrow2 hnil2
            obtain ⟨g2, cap2, rfl, hg2, hg2', hg2''⟩ := own_shape hown2 (fun e => by simp [e] at hnil2)
            have hB3 : Below wo.heap.size wo w3 := (HB2.out.alloc hs2 _).grown hgrow2 (by simp; omega) (by intro q hq; simp [Value.ownBlock] at hq; omega)
            have hs3 := hB3.size
            have HB3 := Lib.hid hB3
            have HO2 := Lib.hid hown2
            clear hown2 hgrow2 hnil2 hB3 HB2 HO1
            go_wp2_with (at_builtin; go_loud (refine wpList_append_src rfl (.tmp 37) (.tmp 40) 23 rfl wo.heap.size 3 i0 (.int .i64 0) 8 Try.underlying23 hi hz0 hz1 hz2 rfl _ _ _ rfl HO2.out _ _ _ ((zk.drop j).map (Value.int .i64)) rfl (by simp [Hlen.out]) ?src2 (ints_oneCell _ _) (by unfold maxLen; omega) (by omega) hs3 ?_))
            case src2 =>
              intro h0
              exact absurd h0 (by simp)
            intro v3 w4 hown3 hgrow3 hnil3
            obtain ⟨g3, cap3, rfl, hg3, hg3', hg3''⟩ := own_shape hown3 (fun e => by simp [e] at hnil3)
            have hB4 : Below wo.heap.size wo w4 := HB3.out.grown hgrow3 hs3 (by intro q hq; simp [Value.ownBlock] at hq; omega)
            have hnx := ins_next (by rw [← Hn.out]; exact hlt) hx.out hj (by rw [← Hzk.out]; exact HJ.out) (by rw [← Hzk.out]; intro h; omega)
            have HN : Hid (RS w.heap.size zs w (j + 1) g3 cap3 w4) := by
              refine ⟨?_, HS.out.below.trans (hB4.mono HS.out.below.size)⟩
              rw [← hnx, ← Hzk.out]
              have e1 : j + 1 = j + 1 := by omega
              rw [e1] at hown3
              simpa using own_base hown3 HS.out.below.size
            have e1 : j + 1 = j + 1 := by omega
            rw [e1]
            clear hown3 hgrow3 hnil3 hB4 hnx e1
            go_wp2
            go_roundw
            case rel => exact ⟨j + 1, g3, cap3, by omega, by go_num, rfl, HN⟩
            case measure => simp [intOf]; omega
    · obtain rfl : k = n := by omega
      go_wp2
      go_ret
      refine ⟨_, rfl, ?_, HS.out.below⟩
      unfold OwnI
      have := HS.out.own
      rw [List.take_of_length_le (by rw [← Hn.out]; exact Nat.le_refl _)] at this
      rw [length_sortI, ← Hn.out]
      exact this
end Go.Proofs.Yteffilepolbgbaa
