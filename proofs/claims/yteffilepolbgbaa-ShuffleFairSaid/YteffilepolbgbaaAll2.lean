/- handoffref02.All, walked. -/
import Derived.Test.YteffilepolbgbaaAll
namespace Go.Proofs.Yteffilepolbgbaa
open Go.RowKit
set_option linter.unusedVariables false

set_option maxHeartbeats 2000000 in
theorem all_any : ∀ (n : Nat) (hn : n ≤ 6) (w : World), Calls Try.prog 22 #[.int .i64 n] w (AllPost (allL n) w) := by
  intro n
  induction n with
  | zero =>
    intro hn w
    go_enter Try.func22, Try.ntmps22
    go_wp2
    go_ret
    refine ⟨_, _, [.slice (some ⟨w.heap.size, 0, none⟩) 0 0], w.heap.size + 5, rfl, ?_, ?_, ?_, ((Below.refl _ _).alloc (Nat.le_refl _) _).alloc (by simp) _⟩
    · intro h0
      refine ⟨_, 0, rfl, fun j hj => ?_⟩
      match j, hj with
      | 0, _ => simp [go_sem]
    · refine ⟨rfl, fun i hi => ?_⟩
      match i, hi with
      | 0, _ => exact ⟨some ⟨w.heap.size, 0, none⟩, 0, rfl, ⟨by simp [allL], fun h => by simp [allL] at h⟩, fun b off e => by simp at e; simp; omega⟩
    · intro v hv k hk
      simp at hv
      rcases hv with rfl | rfl
      · simp [Value.ownBlock] at hk; omega
      · simp [Value.ownBlock] at hk; omega
  | succ m ih =>
    intro hn w
    obtain ⟨i0, hi, hz0, hz1, hz2⟩ := info_parts Try.info3
    obtain ⟨i1, hj, hy0, hy1, hy2⟩ := info_parts Try.info23
    have IH := Lib.hid (ih (by omega)); clear ih
    go_enter Try.func22, Try.ntmps22
    go_wp2_with fail
    refine (IH.out _).mono ?_
    rintro e w1 ⟨ao, cap, vs1, g1, rfl, hrv, hrr, -, hb⟩
    obtain ⟨N, hN⟩ : ∃ N, N = (allL m).length := ⟨_, rfl⟩
    rw [← hN]
    have hN720 : N ≤ 720 := by rw [hN]; exact length_allL m (by omega)
    have hs1 := hb.size
    simp at hs1
    have hW : Hid (∃ g0 c0, (c0 = 0 ∧ g0 = w.heap.size) ∧ AW w.heap.size w1.heap.size w1 (allTo m 0) g0 c0 w1) := by
      refine ⟨w.heap.size, 0, ⟨rfl, rfl⟩, ⟨[], ?_, by rw [allTo_zero]; exact ⟨rfl, fun i hi => by simp at hi⟩, fun v hv => by simp at hv⟩, .inl ⟨rfl, rfl⟩, by omega, .refl _ _⟩
      rw [allTo_zero]
      have h1 := World.ownsRow_lit (e := 23) (size := 1) w #[] 0 (Nat.le_refl _) (by unfold maxLen; omega) rfl
      exact h1.kept (row := none) ⟨hb.os, hb.tape, hb.output, hb.size, fun k hk _ => hb.block k hk⟩ (.inr (by simp [Value.ownBlock]))
    obtain ⟨g0, c0, h00, hW0⟩ := hW.out
    obtain ⟨rfl, rfl⟩ := h00
    have HW := Lib.hid hW0
    have HB : Hid (Below w.heap.size w w1) := ((Below.refl _ _).alloc (Nat.le_refl _) _).trans (hb.mono (by simp))
    have HV := Lib.hid hrv
    have HR := Lib.hid hrr
    have HN := Lib.hid hN
    clear hrv hrr hb hN hW hW0 IH
    go_wp2
    go_loopw [3, 5, 6, 16] (fun v _ _ i wr => ∃ (q M g c : Nat), q ≤ N ∧ i = .int .i64 q ∧ M ≤ 5040 ∧ v = .slice (some ⟨g, 0, none⟩) M c ∧ Hid (M = (allTo m q).length ∧ AW w.heap.size w1.heap.size w1 (allTo m q) g c wr)) (fun _ _ _ i _ => N - (intOf i).toNat)
    case atStart => exact ⟨0, 0, _, _, Nat.zero_le _, rfl, by omega, rfl, by rw [allTo_zero]; rfl, HW.out⟩
    case round =>
      clear HW
      obtain ⟨q, M, g, c, hq, rfl, hM, rfl, HA⟩ := hrel
      by_cases hlt : q < N
      · obtain ⟨b, off, rfl, hcell⟩ := (HV.out.below HA.out.2.below (Nat.le_refl _)) (by rw [HR.out.1, ← HN.out]; omega)
        have hc := hcell q (by rw [HR.out.1, ← HN.out]; exact hlt)
        obtain ⟨al, cl, hvl, hrl, _⟩ := HR.out.2 q (by rw [← HN.out]; exact hlt)
        obtain ⟨l, hl⟩ : ∃ l, l = (allL m).getD q [] := ⟨_, rfl⟩
        rw [← hl] at hvl hrl
        have hll : l.length = m := length_row m l (by rw [hl]; exact getD_memL (by rw [← HN.out]; exact hlt))
        rw [hvl, hll] at hc
        have hnx : allTo m (q + 1) = allTo m q ++ rowTo l (m + 1) := by rw [hl]; exact allTo_succ m q (by rw [← HN.out]; exact hlt)
        have hlen := length_allTo m q (by rw [← HN.out]; omega)
        have hqm : q * (m + 1) ≤ 720 * 6 := Nat.mul_le_mul (by omega) (by omega)
        have hMq : M ≤ 4320 := by rw [HA.out.1, hlen]; omega
        have HRl := Lib.hid hrl
        have Hll := Lib.hid hll
        have Hnx := Lib.hid hnx
        clear hcell hvl hrl hl hll hnx hlen hqm
        have HA0 : Hid (M = (allTo m q ++ rowTo l 0).length ∧ AW w.heap.size w1.heap.size w1 (allTo m q ++ rowTo l 0) g c wr) := by
          show _ ∧ _
          rw [rowTo_zero, List.append_nil]; exact HA.out
        have HMq : Hid (M = (allTo m q).length) := HA.out.1
        clear HA hM
        go_wp2
        go_loopw [3, 6] (fun v i wr => ∃ (d M' g' c' : Nat), d ≤ m + 1 ∧ i = .int .i64 d ∧ M' ≤ M + d ∧ v = .slice (some ⟨g', 0, none⟩) M' c' ∧ Hid (M' = (allTo m q ++ rowTo l d).length ∧ AW w.heap.size w1.heap.size w1 (allTo m q ++ rowTo l d) g' c' wr)) (fun _ i _ => m + 1 - (intOf i).toNat)
        case atStart => exact ⟨0, M, _, _, Nat.zero_le _, rfl, by omega, rfl, HA0⟩
        case round =>
          clear HA0
          obtain ⟨d, M', g', c', hd, rfl, hM', rfl, HA⟩ := hrel
          by_cases hdm : d < m + 1
          · have hA := HA.out.2
            have hlen := HA.out.1
            obtain ⟨vs, hown, hrr, hfv⟩ := hA.ex
            rw [← hlen] at hown
            have hs1' := hA.below.size
            have hgl := hA.lt
            have hRl : Rd .i64 wr al l := HRl.out.below hA.below (Nat.le_refl _)
            have hB0 : Below wr.heap.size wr (wr.alloc (.cells #[] 3)) := (Below.refl _ _).alloc (Nat.le_refl _) _
            have HA' := Lib.hid hA
            have HO := Lib.hid hown
            have HRR := Lib.hid hrr
            have HFV := Lib.hid hfv
            have HRw := Lib.hid hRl
            have HLen := Lib.hid hlen
            clear HA hA hown hrr hfv hRl hlen
            go_wp2_with (at_builtin; go_loud (refine wpList_append_src rfl (.tmp 26) (.tmp 27) 23 rfl wr.heap.size 3 i0 (.int .i64 0) 8 Try.underlying23 hi hz0 hz1 hz2 rfl _ 0 [] rfl (World.ownsRow_lit wr #[] 0 (Nat.le_refl _) (by unfold maxLen; omega) rfl) _ m _ (l.map (Value.int .i64)) rfl (by rw [List.length_map, Hll.out]) ((HRw.out.below hB0 (Nat.le_refl _)).src Hll.out.symm) (ints_oneCell _ _) (by unfold maxLen; omega) (by omega) hB0.size ?_))
            intro v2 w2 hown2 hgrow2 hnil2
            obtain ⟨g2, cap2, rfl, hg2, hg2', hg2''⟩ := own_shape hown2 (fun e => by simp [e] at hnil2)
            have hB2 : Below wr.heap.size wr w2 := hB0.grown hgrow2 hB0.size (by intro k hk; simp [Value.ownBlock] at hk; omega)
            have hs2 := hB2.size
            have HO2 := Lib.hid hown2
            have HB2 := Lib.hid hB2
            clear hown2 hgrow2 hnil2 hB0 hB2
            go_wp2_with (at_builtin; go_loud (refine wpList_append_own _ rfl (.tmp 28) (.tmp 30) 23 rfl wr.heap.size 3 i0 (.int .i64 0) 1 8 Try.underlying23 hi hz0 hz1 hz2 rfl (by decide) _ _ _ rfl (HO2.out.alloc _) ⟨w2.heap.size, 0, none⟩ 1 1 [.int .i64 d] rfl rfl (cell_one_new _ _ _) (by intro u hu; simp at hu; subst hu; rfl) (by unfold maxLen; omega) (by omega) (by simp; omega) ?_))
            intro v3 w3 hown3 hgrow3 hnil3
            obtain ⟨g3, cap3, rfl, hg3, hg3', hg3''⟩ := own_shape hown3 (fun e => by simp [e] at hnil3)
            have hB3 : Below wr.heap.size wr w3 := (HB2.out.alloc hs2 _).grown hgrow3 (by simp; omega) (by intro k hk; simp [Value.ownBlock] at hk; omega)
            have hs3 := hB3.size
            have hl1 : (l ++ [(d : Int)]).length = m + 1 := by rw [List.length_append, Hll.out]; rfl
            have hown3' : w3.ownsRow wr.heap.size 3 1 (.slice (some ⟨g3, 0, none⟩) (m + 1) cap3) (l ++ [(d : Int)]).length ((l ++ [(d : Int)]).map (Value.int .i64)) := by rw [hl1]; simpa using hown3
            have hrd3 : Rd .i64 w3 (some ⟨g3, 0, none⟩) (l ++ [(d : Int)]) := by
              have h5 : OwnI wr.heap.size w3 (.slice (some ⟨g3, 0, none⟩) (m + 1) cap3) (l ++ [(d : Int)]) := hown3'
              obtain ⟨a5, c5, e5, r5⟩ := h5.rd (by rw [hl1]; omega)
              obtain rfl : some ⟨g3, 0, none⟩ = a5 := by simp at e5; exact e5.1
              exact r5
            have HB3 := Lib.hid hB3
            have HR3 := Lib.hid hrd3
            have Hl1 := Lib.hid hl1
            have hB4 : Below wr.heap.size wr (w3.alloc (.cells #[.slice (some ⟨g3, 0, none⟩) (m + 1) cap3] 23)) := hB3.alloc hs3 _
            have HB4 := Lib.hid hB4
            have hO4 : (w3.alloc (.cells #[.slice (some ⟨g3, 0, none⟩) (m + 1) cap3] 23)).ownsRow w.heap.size 23 1 (.slice (some ⟨g', 0, none⟩) M' c') M' vs :=
              HO.out.kept (row := none) ⟨hB4.os, hB4.tape, hB4.output, hB4.size, fun k hk _ => hB4.block k hk⟩ (.inr (by simp [Value.ownBlock]))
            have HO4 := Lib.hid hO4
            have hsB : w.heap.size ≤ w3.heap.size := by omega
            clear hown3 hgrow3 hnil3 hB3 hown3' hrd3 hl1 hB4 hO4 HO2 HB2
            go_wp2_with (at_builtin; go_loud (refine wpList_append_one rfl (.tmp 25) (.tmp 32) 35 rfl w.heap.size 23 i1 (.slice none 0 0) 24 Try.underlying35 hj hy0 hy1 hy2 rfl _ M' vs rfl HO4.out ⟨w3.heap.size, 0, none⟩ 1 (.slice (some ⟨g3, 0, none⟩) (m + 1) cap3) rfl (by simp [go_sem]) rfl (by unfold maxLen; omega) (by omega) (by simp; omega) ?_))
            intro g5 cap5 w5 hown5 hgrow5 hgg5
            have hnew := HA'.out.below
            have hAn : AW w.heap.size w1.heap.size w1 (allTo m q ++ rowTo l (d + 1)) g5 cap5 w5 := by
              rw [rowTo_succ, ← List.append_assoc]
              refine aw_step HA'.out (vs := vs) (c := cap3) (ao := some ⟨g3, 0, none⟩) (by rw [← HLen.out]; exact HO.out) HRR.out HFV.out (by omega) (fun a e => by simp at e; subst e; exact hg3) HB4.out hs1' (HR3.out.below ((Below.refl _ _).alloc (Nat.le_refl _) _) (Nat.le_refl _)) (fun b off e => ?_) ?_ hgrow5 ?_ ?_
              · simp at e; simp; omega
              · rw [← HLen.out, Hl1.out]; exact hown5
              · rw [← HLen.out]
                rcases hgg5 with h5 | h5
                · exact .inl ⟨by simpa [Value.ownBlock] using h5.1, h5.2⟩
                · exact .inr (by simpa using h5)
              · exact ((HA'.out.below.trans (HB3.out.mono hs1')).alloc (by omega) _).grown hgrow5 (by simp; omega) (by
                  intro k hk
                  simp [Value.ownBlock] at hk
                  subst hk
                  rcases hgg5 with h5 | h5
                  · have h7 := h5.1
                    simp [Value.ownBlock] at h7
                    have h8 := h5.2
                    rcases HA'.out.pos with h6 | h6
                    · omega
                    · omega
                  · omega)
            have HAn : Hid (M' + 1 = (allTo m q ++ rowTo l (d + 1)).length ∧ AW w.heap.size w1.heap.size w1 (allTo m q ++ rowTo l (d + 1)) g5 cap5 w5) :=
              ⟨by rw [rowTo_succ, ← List.append_assoc, List.length_append, ← HLen.out]; rfl, hAn⟩
            clear hown5 hgrow5 hgg5 hAn hnew
            go_wp2
            go_roundw
            case rel => exact ⟨d + 1, M' + 1, g5, cap5, by omega, by go_num, by omega, rfl, HAn⟩
            case measure => simp [intOf]; omega
          · obtain rfl : d = m + 1 := by omega
            have HAn : Hid (M' = (allTo m (q + 1)).length ∧ AW w.heap.size w1.heap.size w1 (allTo m (q + 1)) g' c' wr) := by
              show _ ∧ _
              rw [Hnx.out]; exact HA.out
            clear HA
            go_wp2
            go_roundw
            case rel => exact ⟨q + 1, M', g', c', by omega, by go_num, by omega, rfl, HAn⟩
            case measure => simp [intOf]; omega
      · obtain rfl : q = N := by omega
        go_wp2
        go_ret
        obtain ⟨vs, hown, hrr, hfv⟩ := HA.out.2.ex
        have e : allTo m q = allL (m + 1) := by rw [HN.out]; exact allTo_all m
        rw [e] at hown hrr
        have hMl : M = (allL (m + 1)).length := by rw [HA.out.1, e]
        obtain ⟨a5, c5, e5, r5⟩ := RdV.of_own hown
        obtain ⟨rfl, rfl⟩ : some ⟨g, 0, none⟩ = a5 ∧ c = c5 := by simpa using e5
        exact ⟨_, _, vs, g, by rw [hMl]; rfl, r5, hrr, (fun v hv k hk => by
          rcases List.mem_cons.1 hv with rfl | hv
          · simp [Value.ownBlock] at hk; subst hk; exact (hown.lt g rfl).1
          · exact hfv v hv k hk), HB.out.trans (HA.out.2.below.mono HB.out.size)⟩
end Go.Proofs.Yteffilepolbgbaa
