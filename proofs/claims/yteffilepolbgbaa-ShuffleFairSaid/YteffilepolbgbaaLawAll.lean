/- The law ShuffleAll, walked: of up to six numbers all draws make unlike orders, as many as there are. -/
import Derived.Test.YteffilepolbgbaaAll2
import Derived.Test.YteffilepolbgbaaLawOrders
namespace Go.Proofs.Yteffilepolbgbaa
open Go.RowKit
set_option linter.unusedVariables false

theorem canon_row (m : Nat) : ∀ l, l ∈ allL m → Canon l := by
  induction m with
  | zero => intro l h; simp [allL] at h; rw [h]; intro i hi; simp at hi
  | succ m ih =>
    intro l h
    unfold allL at h
    obtain ⟨a, ha, hl⟩ := List.mem_flatMap.1 h
    unfold rowTo at hl
    obtain ⟨d, hd, rfl⟩ := List.mem_map.1 hl
    have := List.mem_range.1 hd
    exact canon_snoc (ih a ha) (by omega) (by rw [length_row m a ha]; omega)

theorem nodup_allL (m : Nat) : (allL m).Nodup := by
  induction m with
  | zero => simp [allL]
  | succ m ih =>
    unfold allL
    show List.Pairwise _ _
    rw [List.pairwise_flatMap]
    refine ⟨fun l hl => ?_, ?_⟩
    · unfold rowTo
      rw [List.pairwise_map]
      refine (List.nodup_range (n := m + 1)).imp fun {a b} hab e => ?_
      have := List.append_cancel_left e
      simp at this
      exact hab (by omega)
    · refine List.Pairwise.imp ?_ ih
      intro a b hab x hx y hy e
      unfold rowTo at hx hy
      obtain ⟨i, _, rfl⟩ := List.mem_map.1 hx
      obtain ⟨j, _, rfl⟩ := List.mem_map.1 hy
      exact hab (List.append_inj_left' e (by simp))

theorem nodupL_getD {ls : List (List Int)} (hn : ls.Nodup) {i j : Nat} (hi : i < ls.length) (hj : j < ls.length) (h : ls.getD i [] = ls.getD j []) : i = j := by
  have ei : ls.getD i [] = ls[i] := by simp [List.getD, hi]
  have ej : ls.getD j [] = ls[j] := by simp [List.getD, hj]
  rw [ei, ej] at h
  rcases Nat.lt_trichotomy i j with h' | h' | h'
  · exact absurd h (List.pairwise_iff_getElem.1 hn i j hi hj h')
  · exact h'
  · exact absurd h.symm (List.pairwise_iff_getElem.1 hn j i hj hi h')

/-- All draws make unlike orders. -/
theorem unlike {m i j : Nat} (hi : i < (allL m).length) (hj : j < (allL m).length) (hij : i ≠ j) : ordL ((allL m).getD i []) ≠ ordL ((allL m).getD j []) := by
  intro e
  have mi := getD_memL hi
  have mj := getD_memL hj
  exact hij (nodupL_getD (nodup_allL m) hi hj (ordL_inj m _ _ (length_row m _ mi) (length_row m _ mj) (canon_row m _ mi) (canon_row m _ mj) e))

def ordTo (m i : Nat) : List (List Int) := ((allL m).take i).map ordL
theorem ordTo_zero (m : Nat) : ordTo m 0 = [] := by simp [ordTo]
theorem ordTo_succ (m i : Nat) (h : i < (allL m).length) : ordTo m (i + 1) = ordTo m i ++ [ordL ((allL m).getD i [])] := by
  unfold ordTo
  rw [List.take_succ_eq_append_getElem h, List.map_append]
  simp [List.getD, h]
theorem length_ordTo (m i : Nat) (h : i ≤ (allL m).length) : (ordTo m i).length = i := by simp [ordTo]; omega
theorem getD_ordTo (m i j : Nat) (h : i ≤ (allL m).length) (hj : j < i) : (ordTo m i).getD j [] = ordL ((allL m).getD j []) := by
  simp [ordTo, List.getD, hj, show j < (allL m).length by omega]
theorem facN_I (m : Nat) : ((facN m : Nat) : Int) = factI m := by
  induction m with
  | zero => rfl
  | succ m ih =>
    show ((facN m * (m + 1) : Nat) : Int) = factI m * ((m : Int) + 1)
    rw [← ih]; simp

set_option maxHeartbeats 2000000 in
theorem shuffleAll_walk (n : Int) (w : World) (hn0 : 0 ≤ n) (hn1 : n ≤ 255) :
    Calls Try.prog 5 #[.int .u8 n] w fun e w' => e = .returned (.bool true) ∧ Below w.heap.size w w' := by
  obtain ⟨i1, hj, hy0, hy1, hy2⟩ := info_parts Try.info23
  obtain ⟨k, hk⟩ : ∃ k : Nat, n % 7 = (k : Int) := ⟨(n % 7).toNat, by omega⟩
  have hk6 : k ≤ 6 := by omega
  go_enter Try.func5, Try.ntmps5
  go_wp2_with fail
  refine (shuffle_alive _).mono ?_
  rintro e w1 ⟨rfl, hb⟩
  have HB := Lib.hid hb; clear hb
  go_wp2_with fail
  refine (all_any k hk6 _).mono ?_
  rintro e w2 ⟨ao, cap, vs1, g1, rfl, hrv, hrr, -, hb⟩
  obtain ⟨N, hN⟩ : ∃ N, N = (allL k).length := ⟨_, rfl⟩
  rw [← hN]
  have hN720 : N ≤ 720 := by rw [hN]; exact length_allL k hk6
  have hs1 := hb.size
  simp at hs1
  have hs0 := HB.out.size
  have hW : AW w1.heap.size w2.heap.size w2 (ordTo k 0) w1.heap.size 0 w2 := by
    refine ⟨⟨[], ?_, by rw [ordTo_zero]; exact ⟨rfl, fun i hi => by simp at hi⟩, fun v hv => by simp at hv⟩, .inl ⟨rfl, rfl⟩, by omega, .refl _ _⟩
    rw [ordTo_zero]
    have h1 := World.ownsRow_lit (e := 23) (size := 1) w1 #[] 0 (Nat.le_refl _) (by unfold maxLen; omega) rfl
    exact h1.kept (row := none) ⟨hb.os, hb.tape, hb.output, hb.size, fun k hk _ => hb.block k hk⟩ (.inr (by simp [Value.ownBlock]))
  have HW := Lib.hid hW
  have HB2 : Hid (Below w.heap.size w w2) := (HB.out.alloc hs0 _).trans (hb.mono (by simp; omega))
  have HV := Lib.hid hrv
  have HR := Lib.hid hrr
  have HN := Lib.hid hN
  have hcnt := fun W => count_any (k : Int) W
  rw [countI_in k (by omega), ← facN_I, ← length_allL_eq, ← HN.out] at hcnt
  have HC := Lib.hid hcnt
  clear hrv hrr hb hN hW hcnt
  go_wp2
  go_loopw [4, 6, 7, 19] (fun v _ _ i wr => ∃ (q g c : Nat), q ≤ N ∧ i = .int .i64 q ∧ v = .slice (some ⟨g, 0, none⟩) q c ∧ Hid (AW w1.heap.size w2.heap.size w2 (ordTo k q) g c wr)) (fun _ _ _ i _ => N - (intOf i).toNat)
  case atStart => exact ⟨0, _, _, Nat.zero_le _, rfl, rfl, HW⟩
  case round =>
    clear HW
    obtain ⟨q, g, c, hq, rfl, rfl, HA⟩ := hrel
    by_cases hlt : q < N
    · obtain ⟨b, off, rfl, hcell⟩ := (HV.out.below HA.out.below (Nat.le_refl _)) (by rw [HR.out.1, ← HN.out]; omega)
      have hc := hcell q (by rw [HR.out.1, ← HN.out]; exact hlt)
      obtain ⟨al, cl, hvl, hrl, _⟩ := HR.out.2 q (by rw [← HN.out]; exact hlt)
      obtain ⟨l, hl⟩ : ∃ l, l = (allL k).getD q [] := ⟨_, rfl⟩
      rw [← hl] at hvl hrl
      have hll : l.length = k := length_row k l (by rw [hl]; exact getD_memL (by rw [← HN.out]; exact hlt))
      rw [hvl, hll] at hc
      have hnx : ordTo k (q + 1) = ordTo k q ++ [ordL l] := by rw [hl]; exact ordTo_succ k q (by rw [← HN.out]; exact hlt)
      have hun : ∀ j, j < q → (ordTo k q).getD j [] ≠ ordL l := fun j hj2 => by
        rw [getD_ordTo k q j (by rw [← HN.out]; omega) hj2, hl]
        exact unlike (by rw [← HN.out]; omega) (by rw [← HN.out]; exact hlt) (by omega)
      have hql := length_ordTo k q (by rw [← HN.out]; omega)
      have hor : ∀ j, j < q → ((ordTo k q).getD j []).length = k := fun j hj2 => by
        rw [getD_ordTo k q j (by rw [← HN.out]; omega) hj2, length_ordL]
        exact length_row k _ (getD_memL (by rw [← HN.out]; omega))
      have HRl := Lib.hid hrl
      have Hll := Lib.hid hll
      have Hnx := Lib.hid hnx
      have HU := Lib.hid hun
      have HQ := Lib.hid hql
      have HOR := Lib.hid hor
      clear hcell hvl hrl hl hll hnx hun hql hor
      go_wp2_with fail
      refine (orderL_any l k Hll.out.symm al cl _ (HRl.out.below HA.out.below (Nat.le_refl _)) (by omega)).mono ?_
      rintro e w3 ⟨v3, rfl, hown3, hb3⟩
      have hlt3 := hown3.lt
      obtain ⟨ao3, c3, rfl, hr3⟩ := hown3.rd (by rw [length_ordL, Hll.out]; omega)
      have hol : (ordL l).length = k := by rw [length_ordL, Hll.out]
      rw [hol]
      have hne3 : ∀ b off, ao3 = some ⟨b, off, none⟩ → wr.heap.size ≤ b ∧ b < w3.heap.size := fun b off e => by
        subst e; exact hlt3 b rfl
      have hnb3 : ∀ a, ao3 = some a → wr.heap.size ≤ a.block := fun a e => by
        subst e; exact (hlt3 a.block rfl).1
      have HNB := Lib.hid hnb3
      clear hnb3
      have hs3 := hb3.size
      have HB3 := Lib.hid hb3
      have HR3 := Lib.hid hr3
      have Hol := Lib.hid hol
      have HNE := Lib.hid hne3
      obtain ⟨vs, hown, hrows, hfv⟩ := HA.out.ex
      rw [HQ.out] at hown
      have hown' : w3.ownsRow w1.heap.size 23 1 (.slice (some ⟨g, 0, none⟩) q c) q vs :=
        hown.kept (row := none) ⟨hb3.os, hb3.tape, hb3.output, hb3.size, fun i hi _ => hb3.block i hi⟩ (.inr (by simp [Value.ownBlock]))
      have HO0 := Lib.hid hown
      have HO := Lib.hid hown'
      have HRR := Lib.hid hrows
      have HFV := Lib.hid hfv
      have HRR3 := Lib.hid (hrows.below hb3 (Nat.le_refl _))
      clear hlt3 hown3 hb3 hr3 hol hne3 hown hown' hrows hfv
      go_wp2
      go_loopw [9, 27] (fun _ i wr => ∃ (j t : Nat), j ≤ q ∧ i = .int .i64 j ∧ wr = w3.drewN t) (fun _ i _ => q - (intOf i).toNat)
      case atStart => exact ⟨0, 0, Nat.zero_le _, rfl, rfl⟩
      case round =>
        obtain ⟨j, t, hjq, rfl, rfl⟩ := hrel
        by_cases hlt2 : j < q
        · have cj : w3.cell? ⟨g, j, none⟩ = some (vs.getD j undef) := by
            have hvl : vs.length = q := by have := HO.out.1; omega
            rw [HO.out.cellAt j (by omega)]
            simp [List.getD, hvl, hlt2]
          obtain ⟨aj, cpj, hvj, hrj, _⟩ := HRR3.out.2 j (by rw [HQ.out]; exact hlt2)
          rw [hvj, HOR.out j hlt2] at cj
          have hsame := fun W (h1 : Rd .i64 W aj ((ordTo k q).getD j [])) (h2 : Rd .i64 W ao3 (ordL l)) => same_no _ _ k (HOR.out j hlt2).symm Hol.out.symm aj ao3 cpj c3 W h1 h2 (HU.out j hlt2)
          have HS := Lib.hid hsame
          have HRj := Lib.hid hrj
          clear hvj hrj hsame
          go_wp2_with fail
          refine (HS.out _ (HRj.out.drewN t) (HR3.out.drewN t)).mono ?_
          rintro e w4 ⟨rfl, t2, rfl⟩
          go_wp2
          go_roundw
          case rel => exact ⟨j + 1, _, by omega, by go_num, rfl⟩
          case measure => simp [intOf]; omega
        · obtain rfl : q = j := by omega
          have hsz : w1.heap.size ≤ w3.heap.size := by have := HA.out.below.size; omega
          have hB4 : Below wr.heap.size wr ((w3.drewN t).alloc (.cells #[.slice ao3 k c3] 23)) := (below_drewN HB3.out t).alloc hs3 _
          have hO4 : ((w3.drewN t).alloc (.cells #[.slice ao3 k c3] 23)).ownsRow w1.heap.size 23 1 (.slice (some ⟨g, 0, none⟩) q c) q vs :=
            HO0.out.kept (row := none) ⟨hB4.os, hB4.tape, hB4.output, hB4.size, fun i hi _ => hB4.block i hi⟩ (.inr (by simp [Value.ownBlock]))
          have HB4 := Lib.hid hB4
          have HO4 := Lib.hid hO4
          have HU4 : Hid (((w3.drewN t).alloc (.cells #[.slice ao3 k c3] 23)).cell? ⟨w3.heap.size, 0, none⟩ = some (.slice ao3 k c3)) := by
            exact (World.cell?_alloc_at (w := w3.drewN t) _ _ _ _ rfl).trans rfl
          have HS4 : Hid (w1.heap.size ≤ ((w3.drewN t).alloc (.cells #[.slice ao3 k c3] 23)).heap.size) := Nat.le_trans hsz (Nat.le_of_lt (by simp))
          clear hB4 hO4
          go_wp2_with (at_builtin; go_loud (refine wpList_append_one rfl (.tmp 35) (.tmp 37) 35 rfl w1.heap.size 23 i1 (.slice none 0 0) 24 Try.underlying35 hj hy0 hy1 hy2 rfl _ q vs rfl HO4.out ⟨w3.heap.size, 0, none⟩ 1 (.slice ao3 k c3) rfl HU4.out rfl (by unfold maxLen; omega) (by omega) HS4.out ?_))
          intro g5 cap5 w5 hown5 hgrow5 hgg5
          have hAn : AW w1.heap.size w2.heap.size w2 (ordTo k (q + 1)) g5 cap5 w5 := by
            have hs12 := HA.out.below.size
            rw [Hnx.out]
            refine aw_step HA.out (vs := vs) (c := c3) (ao := ao3) (by rw [HQ.out]; exact HO0.out) HRR.out HFV.out (by omega) HNB.out HB4.out hs12 (((HR3.out.drewN t).below ((Below.refl _ _).alloc (Nat.le_refl _) _) (Nat.le_refl _))) (fun b off e => ?_) ?_ hgrow5 ?_ ?_
            · have := HNE.out b off e; simp; omega
            · rw [HQ.out, Hol.out]; exact hown5
            · rw [HQ.out]
              rcases hgg5 with h5 | h5
              · exact .inl ⟨by simpa [Value.ownBlock] using h5.1, h5.2⟩
              · exact .inr (by simpa using h5)
            · exact ((below_drewN (HA.out.below.trans (HB3.out.mono hs12)) t).alloc (by show _ ≤ w3.heap.size; omega) _).grown hgrow5 (by simp; omega) (by
                intro k' hk'
                simp at hk'
                subst hk'
                rcases hgg5 with h5 | h5
                · have h7 := h5.1
                  simp [Value.ownBlock] at h7
                  have h8 := h5.2
                  rcases HA.out.pos with h6 | h6
                  · omega
                  · omega
                · omega)
          have HAn := Lib.hid hAn
          clear hown5 hgrow5 hgg5 hAn
          go_wp2
          go_roundw
          case rel => exact ⟨q + 1, g5, cap5, by omega, by go_num, rfl, HAn⟩
          case measure => simp [intOf]; omega
    · obtain rfl : q = N := by omega
      go_wp2_with (go_at_call 25; refine (HC.out _).mono ?_; rintro e w' ⟨rfl, rfl⟩)
      go_ret
      exact ⟨by simp, HB2.out.trans (HA.out.below.mono HB2.out.size)⟩
end Go.Proofs.Yteffilepolbgbaa
