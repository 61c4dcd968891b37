/- fair.Fair, walked. -/
import Derived.Test.YteffilepolbgbaaAges
import Derived.Test.YteffilepolbgbaaAgesMath
namespace Go.Proofs.Yteffilepolbgbaa
open Go.RowKit Go.Maps
set_option linter.unusedVariables false

theorem newAges_walk (w : World) : Calls Try.prog 52 #[] w fun e w' => ∃ s b1 b2, e = .returned (.pointer (some ⟨s, 0, none⟩)) ∧ AgesAt w' s b1 b2 0 0 (fun _ => 0) (fun _ => 0) ∧ Below w.heap.size w w' ∧ w.heap.size ≤ s ∧ w.heap.size ≤ b1 ∧ w.heap.size ≤ b2 := by
  have hmm := @run_makeMap Try.prog
  go_enter Try.func52, Try.ntmps52
  go_wp2
  go_ret
  refine ⟨w.heap.size + 1 + 1, w.heap.size, w.heap.size + 1, rfl, ⟨?_, ?_, ?_, by omega, by omega, by omega⟩, ?_, by omega, by omega, by omega⟩
  · have := heap_alloc_new ((w.alloc (.map #[] 0)).alloc (.map #[] 0)) (.cells #[.map (some w.heap.size), .map (some (w.heap.size + 1))] 75)
    simpa using this
  · exact ((OwnM.made w).kept (World.grownBy_alloc _ _ none) (by simp)).kept (World.grownBy_alloc _ _ none) (by simp)
  · have := (OwnM.made (w.alloc (.map #[] 0))).kept (World.grownBy_alloc _ (.cells #[.map (some w.heap.size), .map (some (w.heap.size + 1))] 75) none) (by simp)
    simpa using this
  · exact (((Below.refl _ _).alloc (Nat.le_refl _) _).alloc (by simp) _).alloc (by simp; omega) _

/-- What Fair answers. -/
def FairIs (ts : List (Int × List Int)) (k : Int) (b : Bool) : Prop := (k < 1 → b = decide (ts.length = 0)) ∧ (1 ≤ k → (b = true ↔ ¬ Late ts k.toNat))
theorem fairIs_one {ts : List (Int × List Int)} {k : Int} {b b' : Bool} (h : FairIs ts k b) (h' : FairIs ts k b') : b = b' := by
  by_cases hk : k < 1
  · rw [h.1 hk, h'.1 hk]
  · have h1 := h.2 (by omega)
    have h2 := h'.2 (by omega)
    cases b <;> cases b' <;> simp_all

theorem But.below {s b B : Nat} {w w' : World} (h : But s b w w') (h1 : B ≤ s) (h2 : B ≤ b) (h3 : B ≤ w.heap.size) : Below B w w' :=
  ⟨h.os, h.tape, h.output, h.size, fun k hk => h.block k (by omega) (by omega) (by omega)⟩

structure FairW (B s q : Nat) (ts : List (Int × List Int)) (w wr : World) : Prop where
  ages : ∃ b1 b2 n1 n2 f2, AgesAt wr s b1 b2 n1 n2 (ageF ts q) f2 ∧ B ≤ b1 ∧ B ≤ b2
  below : Below B w wr

set_option maxHeartbeats 2000000 in
theorem fair_walk (ts : List (Int × List Int)) (n : Nat) (hn : n = ts.length) (a : Option Addr) (c : Nat) (k : Int) (w : World) (h1 : RdTurns w a ts) (hn100 : n ≤ 100)
    (hrow : ∀ i, i < n → (ts.getD i (0, [])).2.length ≤ 20) (hwf : ∀ i, i < n → ∀ z ∈ (ts.getD i (0, [])).2, (Lit.int .i64 z).wf = true) :
    Calls Try.prog 38 #[.slice a n c, .int .i64 k] w fun e w' => (∃ b, e = .returned (.bool b) ∧ FairIs ts k b) ∧ Below w.heap.size w w' := by
  have Hn := Lib.hid hn; have H1 := Lib.hid h1; have HRow := Lib.hid hrow; have HWF := Lib.hid hwf;
  clear hn h1 hrow hwf
  go_enter Try.func38, Try.ntmps38
  by_cases hk : k < 1
  · go_wp2
    go_ret
    refine ⟨⟨_, rfl, ?_, fun h => by omega⟩, Below.refl _ _⟩
    intro _
    rw [← Hn.out]
    by_cases hn0 : n = 0 <;> simp [hn0]
  go_wp2_with fail
  refine (newAges_walk _).mono ?_
  rintro e w1 ⟨s, b1, b2, rfl, hA, hB, hs, hb1, hb2⟩
  have HW : Hid (FairW w.heap.size s 0 ts w w1) := ⟨⟨b1, b2, 0, 0, _, hA, hb1, hb2⟩, hB⟩
  clear hA hB hb1 hb2
  go_wp2
  go_loopw [7, 9, 18] (fun _ _ i wr => ∃ q : Nat, q ≤ n ∧ i = .int .i64 q ∧ Hid (∀ q', q' < q → ∀ g, g ∈ (ts.getD q' (0, [])).2 → ageF ts (q' + 1) g < k) ∧ Hid (FairW w.heap.size s q ts w wr)) (fun _ _ i _ => n - (intOf i).toNat)
  case atStart => exact ⟨0, Nat.zero_le _, rfl, fun q' h => absurd h (by omega), HW⟩
  case round =>
    clear HW
    obtain ⟨q, hq, rfl, HL, HW⟩ := hrel
    by_cases hlt : q < n
    · obtain ⟨b0, o0, r, c2, rfl, hc0w, hc1w, hrdw⟩ := H1.out.2 q (by rw [← Hn.out]; exact hlt)
      have hrow := HRow.out q hlt
      have hwf := HWF.out q hlt
      have hstep : ageF ts (q + 1) = turnF (ts.getD q (0, [])).1 (ts.getD q (0, [])).2 (ageF ts q) := rfl
      have hnx : (∀ g, g ∈ (ts.getD q (0, [])).2 → ageF ts (q + 1) g < k) → ∀ q', q' < q + 1 → ∀ g, g ∈ (ts.getD q' (0, [])).2 → ageF ts (q' + 1) g < k := fun h q' hq' => by
        rcases Nat.lt_or_ge q' q with h1 | h1
        · exact HL.out q' h1
        · obtain rfl : q' = q := by omega
          exact h
      have hlate : ∀ g, g ∈ (ts.getD q (0, [])).2 → k ≤ ageF ts (q + 1) g → FairIs ts k false := fun g hg hge => ⟨fun h => by omega, fun h => by
        simp
        exact ⟨q, by rw [← Hn.out]; exact hlt, g, hg, by omega⟩⟩
      obtain ⟨who, hwho⟩ : ∃ who, who = (ts.getD q (0, [])).1 := ⟨_, rfl⟩
      obtain ⟨run, hrun⟩ : ∃ run, run = (ts.getD q (0, [])).2 := ⟨_, rfl⟩
      rw [← hrun] at hc1w hrdw hrow hwf hstep hnx hlate
      rw [← hwho] at hc0w hstep
      obtain ⟨m, hm⟩ : ∃ m, m = run.length := ⟨_, rfl⟩
      rw [← hm] at hc1w hrow
      obtain ⟨⟨b1, b2, n1, n2, f2, hA, hb1, hb2⟩, hB⟩ := HW.out
      have hc0 : wr.cell? ⟨b0, o0 + q * 2, none⟩ = some (.int .i64 who) := (hB.cell (World.block_lt_of_cell? w _ hc0w)).trans hc0w
      have hc1 : wr.cell? ⟨b0, o0 + q * 2 + 1, none⟩ = some (.slice r m c2) := (hB.cell (World.block_lt_of_cell? w _ hc1w)).trans hc1w
      have hsz := hB.size
      have hg := World.grownBy_alloc wr (.cells #[.int .i64 who, .slice r m c2] 53) none
      have hlt3 := hA.lt
      have hA1 : AgesAt (wr.alloc (.cells #[.int .i64 who, .slice r m c2] 53)) s b1 b2 n1 n2 (ageF ts q) f2 :=
        ⟨(hg.block s hlt3 (by simp)).trans hA.blk, hA.m1.kept hg (by simp), hA.m2.kept hg (by simp), hA.ne1, hA.ne2, hA.ne⟩
      have hB1 : Below w.heap.size w (wr.alloc (.cells #[.int .i64 who, .slice r m c2] 53)) := hB.alloc hsz _
      have hrn : 0 < run.length → ∀ b off, r = some ⟨b, off, none⟩ → b < w.heap.size := fun h0 b off e => by
        obtain ⟨b', off', e', hc⟩ := hrdw.2 h0
        have := World.block_lt_of_cell? w _ (hc 0 h0)
        rw [e] at e'
        simp at e'
        simp at this
        omega
      have hturn := turn_walk (who := who) r c2 _ hm hrow hA1 (hrdw.below hB1 (Nat.le_refl _)) hwf (fun g => by have := ageF_in ts q g; omega) (fun h0 b off e => by have := hrn h0 b off e; omega)
      obtain ⟨p, hp⟩ : ∃ p, p = wr.heap.size := ⟨_, rfl⟩
      have hp4 : (wr.alloc (.cells #[.int .i64 who, .slice r m c2] 53)).heap[p]? = some (.cells #[.int .i64 who, .slice r m c2] 53 (0, 0)) := by rw [hp]; exact heap_alloc_new wr _
      have hps : p ≠ s := by omega
      have hpb2 : p ≠ b2 := by have := hA.m2.lt; omega
      have HT := Lib.hid hturn; have HP4 := Lib.hid hp4; have HPP := Lib.hid hp; have HStep := Lib.hid hstep; have HNX := Lib.hid hnx; have HLate := Lib.hid hlate; have HM := Lib.hid hm; have HWFr := Lib.hid hwf
      have HB1 := Lib.hid hB1; have HRD := Lib.hid hrdw
      clear hturn hp4 hp hstep hnx hlate hm hwf hrdw hB1 hrn hA1 hg hA hB HW hwho hrun hc0w hc1w
      go_wp2_with fail
      refine HT.out.mono ?_
      rintro e w5 ⟨rfl, hA5, hB5⟩
      have hp5 : w5.heap[p]? = some (.cells #[.int .i64 who, .slice r m c2] 53 (0, 0)) := by
        rw [hB5.block p (Array.getElem?_eq_some_iff.1 HP4.out).1 hps hpb2]; exact HP4.out
      rw [← HStep.out] at hA5
      have hB6 : Below w.heap.size w w5 := HB1.out.trans (hB5.below hs hb2 (by simp; omega))
      have q1 := cell_of_row w5 p 1 _ _ _ hp5
      simp only [List.getElem?_toArray, List.getElem?_cons_zero, List.getElem?_cons_succ] at q1
      have hW' : FairW w.heap.size s (q + 1) ts w w5 := ⟨⟨b2, b1, m, n1, _, hA5, hb2, hb1⟩, hB6⟩
      rw [← HPP.out]
      have HA5 := Lib.hid hA5; have HW' := Lib.hid hW'
      have d0 := hA5.c0
      have hrd5 := HRD.out.below hB6 (Nat.le_refl _)
      have HRD5 := Lib.hid hrd5
      clear hA5 hB5 hp5 hB6 hW' HT HB1 HP4 hc0 hc1 hrd5
      go_wp2
      go_loop [9, 28] (fun _ i => ∃ j : Nat, j ≤ m ∧ i = .int .i64 j ∧ Hid (∀ g, g ∈ run.take j → ageF ts (q + 1) g < k)) (fun _ i => m - (intOf i).toNat)
      case atStart => exact ⟨0, Nat.zero_le _, rfl, fun g hg => absurd hg (by simp)⟩
      case round =>
        obtain ⟨j, hj, rfl, HJ⟩ := hrel
        by_cases hltj : j < m
        · obtain ⟨b3, o3, rfl, hz⟩ := HRD5.out.at j (by rw [← HM.out]; exact hltj)
          have hj' : j < run.length := by rw [← HM.out]; exact hltj
          have hge : run.getD j 0 = run[j] := by simp [List.getD, hj']
          have hzm : run.getD j 0 ∈ run := by rw [hge]; exact List.getElem_mem hj'
          have hzw := HWFr.out _ hzm
          have hlk := HA5.out.m1.lookup hzw
          have hlate := HLate.out _ hzm
          have hnx : ageF ts (q + 1) (run.getD j 0) < k → ∀ g, g ∈ run.take (j + 1) → ageF ts (q + 1) g < k := fun h g hg => by
            rw [List.take_succ_eq_append_getElem hj', List.mem_append, List.mem_singleton, ← hge] at hg
            rcases hg with hg | rfl
            · exact HJ.out g hg
            · exact h
          obtain ⟨z, hzz⟩ : ∃ z, z = run.getD j 0 := ⟨_, rfl⟩
          rw [← hzz] at hz hlk hlate hnx
          obtain ⟨y, hy⟩ : ∃ y, y = ageF ts (q + 1) z := ⟨_, rfl⟩
          rw [← hy] at hlk hlate hnx
          have HL2 := Lib.hid hlate; have HN2 := Lib.hid hnx
          clear hj' hge hzm hzw hlate hnx hzz hy
          by_cases hky : k ≤ y
          · go_wp2
            go_ret
            exact ⟨.inl ⟨rfl, HL2.out hky⟩, HW'.out.below⟩
          · go_wp2
            go_round
            case rel => exact ⟨j + 1, by omega, by go_num, HN2.out (by omega)⟩
            case measure => simp [intOf]; omega
        · obtain rfl : j = m := by omega
          have HX := Lib.hid (HNX.out fun g hg => HJ.out g (by rw [List.take_of_length_le (by rw [← HM.out]; exact Nat.le_refl _)]; exact hg))
          go_wp2
          go_roundw
          case rel => exact ⟨q + 1, by omega, by go_num, HX, HW'⟩
          case measure => simp [intOf]; omega
    · obtain rfl : q = n := by omega
      have hnl : FairIs ts k true := ⟨fun h => by omega, fun _ => ⟨fun _ ⟨q', hq', g, hg, hge⟩ => by
        have := HL.out q' (by rw [Hn.out]; exact hq') g hg
        omega, fun _ => rfl⟩⟩
      have HNL := Lib.hid hnl; clear hnl
      go_wp2
      go_ret
      exact ⟨⟨_, rfl, HNL.out⟩, HW.out.below⟩
end Go.Proofs.Yteffilepolbgbaa
