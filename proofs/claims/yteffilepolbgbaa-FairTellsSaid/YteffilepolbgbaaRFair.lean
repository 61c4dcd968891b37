/- The reference's Fair, walked. -/
import Derived.Test.YteffilepolbgbaaFair
namespace Go.Proofs.Yteffilepolbgbaa
open Go.RowKit Go.Maps
set_option linter.unusedVariables false

theorem has_walk (run : List Int) (m : Nat) (hm : m = run.length) (r : Option Addr) (c : Nat) (z : Int) (w : World) (hr : Rd .i64 w r run) :
    Calls Try.prog 57 #[.slice r m c, .int .i64 z] w fun e w' => e = .returned (.bool (decide (z ∈ run))) ∧ w = w' := by
  have hl := hr.1
  rw [← hm] at hl
  have HM := Lib.hid hm; have HR := Lib.hid hr
  clear hm hr
  go_enter Try.func57, Try.ntmps57
  go_wp2
  go_loop [6, 9] (fun _ i => ∃ j : Nat, j ≤ m ∧ i = .int .i64 j ∧ Hid (z ∉ run.take j)) (fun _ i => m - (intOf i).toNat)
  case atStart => exact ⟨0, Nat.zero_le _, rfl, (by simp : z ∉ run.take 0)⟩
  case round =>
    obtain ⟨j, hj, rfl, HJ⟩ := hrel
    by_cases hlt : j < m
    · obtain ⟨b, o, rfl, hc⟩ := HR.out.at j (by rw [← HM.out]; exact hlt)
      have hj' : j < run.length := by rw [← HM.out]; exact hlt
      have hge : run.getD j 0 = run[j] := by simp [List.getD, hj']
      have hin : run.getD j 0 = z → z ∈ run := fun h => by rw [← h, hge]; exact List.getElem_mem hj'
      have hnx : run.getD j 0 ≠ z → z ∉ run.take (j + 1) := fun h hg => by
        rw [List.take_succ_eq_append_getElem hj', List.mem_append, List.mem_singleton, ← hge] at hg
        rcases hg with hg | hg
        · exact HJ.out hg
        · exact h hg.symm
      obtain ⟨y, hy⟩ : ∃ y, y = run.getD j 0 := ⟨_, rfl⟩
      rw [← hy] at hc hin hnx
      have HI := Lib.hid hin; have HN := Lib.hid hnx
      clear hj' hge hin hnx hy
      by_cases hyz : y = z
      · have hd := HI.out hyz
        have HD := Lib.hid hd; clear hd
        subst hyz
        go_wp2
        go_ret
        simp [HD.out]
      · go_wp2
        go_round
        case rel => exact ⟨j + 1, by omega, by go_num, HN.out hyz⟩
        case measure => simp [intOf]; omega
    · obtain rfl : j = m := by omega
      have hno : z ∉ run := by
        have := HJ.out
        rw [List.take_of_length_le (by rw [← HM.out]; exact Nat.le_refl _)] at this
        exact this
      have HNO := Lib.hid hno; clear hno
      go_wp2
      go_ret
      simp [HNO.out]

set_option maxHeartbeats 2000000 in
theorem starves_walk (ts : List (Int × List Int)) (n : Nat) (hn : n = ts.length) (a : Option Addr) (c : Nat) (g : Int) (w : World) (h1 : RdTurns w a ts) :
    Calls Try.prog 54 #[.slice a n c, .int .i64 g] w fun e w' => (∃ b, e = .returned (.bool b) ∧ (b = true ↔ ∀ j, j < ts.length → Waits ts g j)) ∧ Below w.heap.size w w' := by
  have hl := h1.1
  rw [← hn] at hl
  have Hn := Lib.hid hn; have H1 := Lib.hid h1
  clear hn h1
  go_enter Try.func54, Try.ntmps54
  go_wp2
  go_loopw [6, 9] (fun _ i wr => ∃ j : Nat, j ≤ n ∧ i = .int .i64 j ∧ Hid (∀ i, i < j → Waits ts g i) ∧ Hid (Below w.heap.size w wr)) (fun _ i _ => n - (intOf i).toNat)
  case atStart => exact ⟨0, Nat.zero_le _, rfl, fun i h => absurd h (by omega), Below.refl _ _⟩
  case round =>
    obtain ⟨q, hq, rfl, HL, HB⟩ := hrel
    by_cases hlt : q < n
    · obtain ⟨b0, o0, r, c2, rfl, hc0, hc1, hrd⟩ := (H1.out.below HB.out (Nat.le_refl _)).2 q (by rw [← Hn.out]; exact hlt)
      have hno : ¬ Waits ts g q → ((false : Bool) = true ↔ ∀ j, j < ts.length → Waits ts g j) := fun h => ⟨fun h => by simp at h, fun h' => absurd (h' q (by rw [← Hn.out]; exact hlt)) h⟩
      have hnx : Waits ts g q → ∀ i, i < q + 1 → Waits ts g i := fun h i hi => by
        rcases Nat.lt_or_ge i q with h1 | h1
        · exact HL.out i h1
        · obtain rfl : i = q := by omega
          exact h
      unfold Waits at hno hnx
      obtain ⟨who, hwho⟩ : ∃ who, who = (ts.getD q (0, [])).1 := ⟨_, rfl⟩
      obtain ⟨run, hrun⟩ : ∃ run, run = (ts.getD q (0, [])).2 := ⟨_, rfl⟩
      rw [← hrun] at hc1 hrd hno hnx
      rw [← hwho] at hc0 hno hnx
      obtain ⟨m, hm⟩ : ∃ m, m = run.length := ⟨_, rfl⟩
      rw [← hm] at hc1
      have hB0 : Below wr.heap.size wr (wr.alloc (.cells #[.int .i64 who, .slice r m c2] 52)) := (Below.refl _ _).alloc (Nat.le_refl _) _
      have hB1 : Below w.heap.size w (wr.alloc (.cells #[.int .i64 who, .slice r m c2] 52)) := HB.out.alloc HB.out.size _
      have hhas := has_walk run m hm r c2 g _ (hrd.below hB0 (Nat.le_refl _))
      obtain ⟨hb, hhb⟩ : ∃ hb, hb = decide (g ∈ run) := ⟨_, rfl⟩
      rw [← hhb] at hhas
      have HHB := Lib.hid hhb; have HHAS := Lib.hid hhas; have HNO := Lib.hid hno; have HNX := Lib.hid hnx; have HB1 := Lib.hid hB1
      clear hhb hhas hno hnx hB0 hB1 hrd hm hwho hrun
      go_wp2_with fail
      refine HHAS.out.mono ?_
      rintro e w5 ⟨rfl, rfl⟩
      have hHB := HHB.out
      cases hb
      · have hn := HNO.out (fun h => by simp [h.1] at hHB)
        have HN := Lib.hid hn
        clear hn hHB
        go_wp2
        go_ret
        exact ⟨⟨_, rfl, HN.out⟩, HB1.out⟩
      · have hmem : g ∈ run := by simpa using hHB
        have HMEM := Lib.hid hmem
        clear hmem hHB
        by_cases hwg : who = g
        · have HN := Lib.hid (HNO.out (fun h => h.2 hwg.symm))
          subst hwg
          go_wp2
          go_ret
          exact ⟨⟨_, rfl, HN.out⟩, HB1.out⟩
        · have HN := Lib.hid (HNX.out ⟨HMEM.out, fun h => hwg h.symm⟩)
          go_wp2
          go_roundw
          case rel => exact ⟨q + 1, by omega, by go_num, HN, HB1⟩
          case measure => simp [intOf]; omega
    · obtain rfl : q = n := by omega
      have HY := Lib.hid (show ∀ j, j < ts.length → Waits ts g j from fun j hj => HL.out j (by rw [Hn.out]; exact hj))
      go_wp2
      go_ret
      exact ⟨⟨_, rfl, fun _ => HY.out, fun _ => rfl⟩, HB.out⟩


theorem RdTurns.sub {w : World} {b off : Nat} {ts : List (Int × List Int)} (h : RdTurns w (some ⟨b, off, none⟩) ts) (i K : Nat) (hi : i + K ≤ ts.length) : RdTurns w (some ⟨b, off + i * 2, none⟩) ((ts.drop i).take K) := by
  have hlen : ((ts.drop i).take K).length = K := by simp; omega
  refine ⟨by have := h.1; omega, fun j hj => ?_⟩
  rw [hlen] at hj
  have hg : ((ts.drop i).take K).getD j (0, []) = ts.getD (i + j) (0, []) := by
    simp [List.getD, hj, List.getElem?_take]
  obtain ⟨b', off', r, c, e, h1, h2, h3⟩ := h.2 (i + j) (by omega)
  simp at e
  obtain ⟨rfl, rfl⟩ := e
  rw [hg]
  refine ⟨b, off + i * 2, r, c, rfl, ?_, ?_, h3⟩
  · rw [show off + i * 2 + j * 2 = off + (i + j) * 2 by omega]; exact h1
  · rw [show off + i * 2 + j * 2 = off + (i + j) * 2 by omega]; exact h2

set_option maxHeartbeats 2000000 in
theorem refFair_walk (ts : List (Int × List Int)) (n : Nat) (hn : n = ts.length) (a : Option Addr) (c : Nat) (hc : n ≤ c) (k : Int) (hk63 : k ≤ 9223372036854775807) (w : World) (h1 : RdTurns w a ts) (hn100 : n ≤ 100) :
    Calls Try.prog 39 #[.slice a n c, .int .i64 k] w fun e w' => (∃ b, e = .returned (.bool b) ∧ FairIs ts k b) ∧ Below w.heap.size w w' := by
  have Hn := Lib.hid hn; have H1 := Lib.hid h1
  clear hn h1
  go_enter Try.func39, Try.ntmps39
  by_cases hk : k < 1
  · go_wp2
    go_ret
    refine ⟨⟨_, rfl, ?_, fun h => by omega⟩, Below.refl _ _⟩
    intro _
    rw [← Hn.out]
    by_cases hn0 : n = 0 <;> simp [hn0]
  obtain ⟨K, hK⟩ : ∃ K : Nat, k = K := ⟨k.toNat, by omega⟩
  subst hK
  have hKf : ∀ b, (b = true ↔ ¬ Left ts K) → FairIs ts K b := fun b h => ⟨fun h' => by omega, fun h' => by rw [h, ← late_iff_left ts K (by omega)]; simp⟩
  have HKF := Lib.hid hKf; clear hKf
  go_wp2
  go_loopw [5, 7] (fun i _ wr => ∃ q : Nat, q ≤ n ∧ i = .int .i64 q ∧ (q = 0 ∨ q + K ≤ n + 1) ∧ Hid (∀ i, i < q → ∀ g, g ∈ (ts.getD i (0, [])).2 → ¬ ∀ j, j < K → Waits ts g (i + j)) ∧ Hid (Below w.heap.size w wr)) (fun i _ _ => n + 1 - (intOf i).toNat)
  case atStart => exact ⟨0, Nat.zero_le _, rfl, .inl rfl, fun q' h => absurd h (by omega), Below.refl _ _⟩
  case round =>
    obtain ⟨q, hq, rfl, hqK, HL, HB⟩ := hrel
    by_cases hlt : q + K ≤ n
    · obtain ⟨b0, o0, r, c2, rfl, hc0, hc1, hrd⟩ := (H1.out.below HB.out (Nat.le_refl _)).2 q (by rw [← Hn.out]; omega)
      have hyes : ∀ g, g ∈ (ts.getD q (0, [])).2 → (∀ j, j < K → Waits ts g (q + j)) → FairIs ts K false := fun g hg hw => HKF.out _ ⟨fun h => by simp at h, fun h => absurd ⟨q, by rw [← Hn.out]; exact hlt, g, hg, hw⟩ h⟩
      have hnx : (∀ g, g ∈ (ts.getD q (0, [])).2 → ¬ ∀ j, j < K → Waits ts g (q + j)) → ∀ i, i < q + 1 → ∀ g, g ∈ (ts.getD i (0, [])).2 → ¬ ∀ j, j < K → Waits ts g (i + j) := fun h i hi => by
        rcases Nat.lt_or_ge i q with h1 | h1
        · exact HL.out i h1
        · obtain rfl : i = q := by omega
          exact h
      have hsub := (H1.out).sub q K (by rw [← Hn.out]; exact hlt)
      have hsl : ((ts.drop q).take K).length = K := by rw [List.length_take, List.length_drop, ← Hn.out]; omega
      have hsw : ∀ g, (∀ j, j < ((ts.drop q).take K).length → Waits ((ts.drop q).take K) g j) ↔ ∀ j, j < K → Waits ts g (q + j) := fun g => by
        rw [hsl]
        have hg : ∀ j, j < K → ((ts.drop q).take K).getD j (0, []) = ts.getD (q + j) (0, []) := fun j hj => by simp [List.getD, hj, List.getElem?_take]
        constructor
        · intro h j hj; have := h j hj; unfold Waits at this ⊢; rw [hg j hj] at this; exact this
        · intro h j hj; have := h j hj; unfold Waits at this ⊢; rw [hg j hj]; exact this
      obtain ⟨sub, hs⟩ : ∃ sub, sub = (ts.drop q).take K := ⟨_, rfl⟩
      rw [← hs] at hsub hsl hsw
      obtain ⟨run, hrun⟩ : ∃ run, run = (ts.getD q (0, [])).2 := ⟨_, rfl⟩
      rw [← hrun] at hc1 hrd hyes hnx
      obtain ⟨m, hm⟩ : ∃ m, m = run.length := ⟨_, rfl⟩
      have hml : m ≤ 9223372036854775807 := by rw [hm]; exact hrd.1
      rw [← hm] at hc1
      have HY := Lib.hid hyes; have HX := Lib.hid hnx; have HS := Lib.hid hsub; have HSL := Lib.hid hsl; have HSW := Lib.hid hsw; have HM := Lib.hid hm; have HRD := Lib.hid hrd
      clear hyes hnx hsub hsl hsw hs hm hrun hrd hc0
      obtain ⟨wo, hwo⟩ : ∃ wo, wo = wr := ⟨_, rfl⟩
      subst hwo
      have hdq : decide ((q : Int) + (K : Int) ≤ (n : Int)) = true := decide_eq_true (by omega)
      go_wp2
      try rw [hdq]
      clear hdq
      go_loopw [7, 27] (fun _ i wr' => ∃ j : Nat, j ≤ m ∧ i = .int .i64 j ∧ Hid (∀ g, g ∈ run.take j → ¬ ∀ i, i < K → Waits ts g (q + i)) ∧ Hid (Below wo.heap.size wo wr')) (fun _ i _ => m - (intOf i).toNat)
      case atStart => exact ⟨0, Nat.zero_le _, rfl, fun g hg => absurd hg (by simp), Below.refl _ _⟩
      case round =>
        obtain ⟨j, hj, rfl, HJ, HB2⟩ := hrel
        have hs1 := HB.out.size
        have hs2 := HB2.out.size
        have HB3 : Hid (Below w.heap.size w wr) := HB.out.trans (HB2.out.mono hs1)
        by_cases hltj : j < m
        · obtain ⟨b3, o3, rfl, hz⟩ := (HRD.out.below HB2.out (Nat.le_refl _)).at j (by rw [← HM.out]; exact hltj)
          have hj' : j < run.length := by rw [← HM.out]; exact hltj
          have hge : run.getD j 0 = run[j] := by simp [List.getD, hj']
          have hzm : run.getD j 0 ∈ run := by rw [hge]; exact List.getElem_mem hj'
          have hyes := HY.out _ hzm
          have hnx : (¬ ∀ i, i < K → Waits ts (run.getD j 0) (q + i)) → ∀ g, g ∈ run.take (j + 1) → ¬ ∀ i, i < K → Waits ts g (q + i) := fun h g hg => by
            rw [List.take_succ_eq_append_getElem hj', List.mem_append, List.mem_singleton, ← hge] at hg
            rcases hg with hg | rfl
            · exact HJ.out g hg
            · exact h
          obtain ⟨z, hzz⟩ : ∃ z, z = run.getD j 0 := ⟨_, rfl⟩
          rw [← hzz] at hz hyes hnx
          have hsw := HSW.out z
          rw [← hsw] at hyes hnx
          have hst := fun cap => starves_walk sub K HSL.out.symm _ cap z wr (HS.out.below HB3.out (Nat.le_refl _))
          have HST := Lib.hid hst
          have HY2 := Lib.hid hyes; have HN2 := Lib.hid hnx
          clear hj' hge hzm hyes hnx hzz hsw hst
          go_wp2_with fail
          refine (HST.out _).mono ?_
          rintro e w5 ⟨⟨sb, rfl, hsb⟩, hB5⟩
          have HB5 : Hid (Below wo.heap.size wo w5) := HB2.out.trans (hB5.mono hs2)
          have HB6 : Hid (Below w.heap.size w w5) := HB3.out.trans (hB5.mono (Nat.le_trans hs1 hs2))
          have HSB := Lib.hid hsb
          clear hsb hB5 HST
          cases sb
          · have HN3 := Lib.hid (HN2.out fun h => by have := HSB.out.2 h; simp at this)
            go_wp2
            go_roundw
            case rel => exact ⟨j + 1, by omega, by go_num, HN3, HB5⟩
            case measure => simp [intOf]; omega
          · have HY3 := Lib.hid (HY2.out (HSB.out.1 rfl))
            go_wp2
            go_ret
            exact ⟨⟨_, rfl, HY3.out⟩, HB6.out⟩
        · obtain rfl : j = m := by omega
          have HX2 := Lib.hid (HX.out fun g hg => HJ.out g (by rw [List.take_of_length_le (by rw [← HM.out]; exact Nat.le_refl _)]; exact hg))
          go_wp2
          go_roundw
          case rel => exact ⟨q + 1, by omega, by go_num, .inr (by omega), HX2, HB3⟩
          case measure => simp [intOf]; omega
    · have hno : ¬ Left ts K := fun ⟨i, hi, g, hg, hw⟩ => HL.out i (by rw [← Hn.out] at hi; omega) g hg hw
      have HNO := Lib.hid (HKF.out true ⟨fun _ => hno, fun _ => rfl⟩)
      clear hno
      go_wp2
      go_ret
      exact ⟨⟨_, rfl, HNO.out⟩, HB.out⟩
end Go.Proofs.Yteffilepolbgbaa
