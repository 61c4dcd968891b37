/- The law FairTells, walked. -/
import Derived.Test.YteffilepolbgbaaRFair
import Derived.Test.YteffilepolbgbaaBound
import Derived.Test.YteffilepolbgbaaApp
namespace Go.Proofs.Yteffilepolbgbaa
open Go.RowKit
set_option linter.unusedVariables false

theorem info53 : (Try.prog.info? 53).map (fun i => (i.zero, i.size, i.bytes)) = some (some (.agg #[.int .i64 0, .slice none 0 0]), 2, 32) := by kernel_rfl

theorem own_shape2 {B e n : Nat} {w : World} {v : Value} {xs : List Value} (h : w.ownsRow B e 2 v n xs) (hn : v ≠ .slice none 0 0) :
    ∃ g cap, v = .slice (some ⟨g, 0, none⟩) n cap ∧ B ≤ g ∧ g < w.heap.size ∧ n ≤ cap := by
  rcases h.2 with ⟨rfl, h0⟩ | ⟨g, cap, cur, rfl, hB, hg, hc, _⟩
  · exact absurd rfl hn
  · exact ⟨g, cap, rfl, hB, (Array.getElem?_eq_some_iff.1 hg).1, hc⟩

/-- The cells of the first q turns. -/
def flatT (ts : List (Int × List Int)) (vs : List Value) : Nat → List Value
  | 0 => []
  | q + 1 => flatT ts vs q ++ [.int .i64 (ts.getD q (0, [])).1, vs.getD q undef]
theorem length_flatT (ts : List (Int × List Int)) (vs : List Value) (q : Nat) : (flatT ts vs q).length = 2 * q := by
  induction q with
  | zero => rfl
  | succ q ih => simp [flatT, ih]; omega
theorem flatT_at (ts : List (Int × List Int)) (vs : List Value) (q : Nat) (i : Nat) (hi : i < q) :
    (flatT ts vs q)[i * 2]? = some (.int .i64 (ts.getD i (0, [])).1) ∧ (flatT ts vs q)[i * 2 + 1]? = some (vs.getD i undef) := by
  induction q with
  | zero => omega
  | succ q ih =>
    have hl := length_flatT ts vs q
    unfold flatT
    rcases Nat.lt_or_ge i q with h | h
    · rw [List.getElem?_append_left (by omega), List.getElem?_append_left (by omega)]
      exact ih h
    · obtain rfl : i = q := by omega
      rw [List.getElem?_append_right (by omega), List.getElem?_append_right (by omega), hl]
      rw [show i * 2 - 2 * i = 0 by omega, show i * 2 + 1 - 2 * i = 1 by omega]
      exact ⟨rfl, rfl⟩

/-- The slices of those who ran, as values. -/
def RunsAt (w : World) (ts : List (Int × List Int)) (vs : List Value) : Prop :=
  ∀ i, i < ts.length → ∃ r c, vs.getD i undef = .slice r (ts.getD i (0, [])).2.length c ∧ Rd .i64 w r (ts.getD i (0, [])).2

theorem runs_of {w : World} {a : Option Addr} {ts : List (Int × List Int)} (h : RdTurns w a ts) :
    ∃ vs, RunsAt w ts vs ∧ ∀ i, i < ts.length → ∃ b off, a = some ⟨b, off, none⟩ ∧ w.cell? ⟨b, off + i * 2, none⟩ = some (.int .i64 (ts.getD i (0, [])).1) ∧ w.cell? ⟨b, off + i * 2 + 1, none⟩ = some (vs.getD i undef) := by
  obtain ⟨vs, hl, hp⟩ := list_of_choice (α := Value) undef (p := fun i v => (∃ r c, v = .slice r (ts.getD i (0, [])).2.length c ∧ Rd .i64 w r (ts.getD i (0, [])).2) ∧
      ∃ b off, a = some ⟨b, off, none⟩ ∧ w.cell? ⟨b, off + i * 2, none⟩ = some (.int .i64 (ts.getD i (0, [])).1) ∧ w.cell? ⟨b, off + i * 2 + 1, none⟩ = some v) ts.length (fun i hi => by
    obtain ⟨b, off, r, c, e, h1, h2, h3⟩ := h.2 i hi
    exact ⟨_, ⟨r, c, rfl, h3⟩, b, off, e, h1, h2⟩)
  exact ⟨vs, fun i hi => (hp i hi).1, fun i hi => (hp i hi).2⟩

structure TW (B n q : Nat) (ts : List (Int × List Int)) (vs : List Value) (g cap : Nat) (w wr : World) : Prop where
  own : wr.ownsRow B 53 2 (.slice (some ⟨g, 0, none⟩) q cap) q (flatT ts vs q)
  below : Below B w wr
  rows : ∀ i, i < q → (ts.getD i (0, [])).2.length ≤ 20

theorem TW.turns {n : Nat} {ts : List (Int × List Int)} {vs : List Value} {g cap : Nat} {w wr : World} (h : TW w.heap.size n ts.length ts vs g cap w wr) (hv : RunsAt w ts vs) (hn : ts.length ≤ 100) : RdTurns wr (some ⟨g, 0, none⟩) ts := by
  refine ⟨by omega, fun i hi => ?_⟩
  obtain ⟨h1, h2⟩ := flatT_at ts vs ts.length i hi
  obtain ⟨r, c, e, hr⟩ := hv i hi
  have c1 := h.own.cells rfl _ _ h1
  have c2 := h.own.cells rfl _ _ h2
  rw [Addr.add_lit] at c1 c2
  rw [e] at c2
  exact ⟨g, 0, r, c, rfl, c1, c2, hr.below h.below (Nat.le_refl _)⟩

set_option maxHeartbeats 4000000 in
theorem fairTells_walk (pl : List (List Nat)) (n : Nat) (hn : n = pl.length) (a : Option Addr) (ca : Nat) (ts : List (Int × List Int)) (m : Nat) (hm : m = ts.length) (b : Option Addr) (cb : Nat) (hmb : m ≤ cb) (k : Int) (hk63 : k ≤ 9223372036854775807)
    (w : World) (h1 : RdPlan w a pl) (h2 : RdTurns w b ts) (hwf : ∀ i, i < ts.length → ∀ z ∈ (ts.getD i (0, [])).2, (Lit.int .i64 z).wf = true) :
    Calls Try.prog 9 #[.slice a n ca, .slice b m cb, .int .i64 k] w fun e w' => e = .returned (.bool true) ∧ Below w.heap.size w w' := by
  obtain ⟨i0, hi, hz0, hz1, hz2⟩ := info_parts info53
  have hml := h2.1
  rw [← hm] at hml
  obtain ⟨vs, hvs, hcs⟩ := runs_of h2
  have Hn := Lib.hid hn; have Hm := Lib.hid hm; have H1 := Lib.hid h1; have H2 := Lib.hid h2; have HWF := Lib.hid hwf; have HV := Lib.hid hvs; have HC := Lib.hid hcs
  clear hn hm h1 h2 hwf hvs hcs
  go_enter Try.func9, Try.ntmps9
  go_wp2_with fail
  refine (fair_alive _).mono ?_
  rintro e w1 ⟨rfl, hb⟩
  have HB := Lib.hid hb; clear hb
  go_wp2_with fail
  refine (great_walk pl n Hn.out a ca w1 (H1.out.below HB.out (Nat.le_refl _))).mono ?_
  rintro e w2 ⟨⟨gr, rfl, hgr⟩, hb⟩
  have HB2 : Hid (Below w.heap.size w w2) := HB.out.trans (hb.mono HB.out.size)
  have HGR := Lib.hid hgr
  clear hb hgr
  cases gr
  · by_cases hm100 : 100 < m
    · go_wp2
      go_ret
      exact ⟨rfl, HB2.out⟩
    have HSM := Lib.hid (HGR.out rfl)
    have hs2 := HB2.out.size
    have HW : Hid (TW w.heap.size m 0 ts vs w2.heap.size 0 w (w2.alloc (.cells #[] 53))) :=
      ⟨by simpa [flatT] using World.ownsRow_lit (base := w.heap.size) (e := 53) (size := 2) w2 #[] 0 hs2 (by unfold maxLen; omega) rfl, HB2.out.alloc hs2 _, fun i h => absurd h (by omega)⟩
    go_wp2
    go_loopw [7, 9, 22] (fun v _ i wr => ∃ q g cap : Nat, q ≤ m ∧ i = .int .i64 q ∧ v = .slice (some ⟨g, 0, none⟩) q cap ∧ Hid (TW w.heap.size m q ts vs g cap w wr)) (fun _ _ i _ => m - (intOf i).toNat)
    case atStart => exact ⟨0, _, _, Nat.zero_le _, rfl, rfl, HW⟩
    case round =>
      clear HW
      obtain ⟨q, g, cap, hq, rfl, rfl, HW⟩ := hrel
      by_cases hlt : q < m
      · obtain ⟨b0, o0, rfl, hc0w, hc1w⟩ := HC.out q (by rw [← Hm.out]; exact hlt)
        obtain ⟨r, c2, hvq, hrd⟩ := HV.out q (by rw [← Hm.out]; exact hlt)
        have hrows := HW.out.rows
        have hown := HW.out.own
        have hB := HW.out.below
        have hfl : flatT ts vs (q + 1) = flatT ts vs q ++ [.int .i64 (ts.getD q (0, [])).1, vs.getD q undef] := rfl
        have hc0 : wr.cell? ⟨b0, o0 + q * 2, none⟩ = some (.int .i64 (ts.getD q (0, [])).1) := (hB.cell (World.block_lt_of_cell? w _ hc0w)).trans hc0w
        have hc1 : wr.cell? ⟨b0, o0 + q * 2 + 1, none⟩ = some (vs.getD q undef) := (hB.cell (World.block_lt_of_cell? w _ hc1w)).trans hc1w
        have hro : (ts.getD q (0, [])).2.length ≤ 20 → ∀ i, i < q + 1 → (ts.getD i (0, [])).2.length ≤ 20 := fun h i hi => by
          rcases Nat.lt_or_ge i q with h1 | h1
          · exact hrows i h1
          · obtain rfl : i = q := by omega
            exact h
        rw [hvq] at hc1 hfl
        obtain ⟨who, hwho⟩ : ∃ who, who = (ts.getD q (0, [])).1 := ⟨_, rfl⟩
        obtain ⟨l, hl⟩ : ∃ l, l = (ts.getD q (0, [])).2.length := ⟨_, rfl⟩
        have hll : l ≤ 9223372036854775807 := by rw [hl]; exact hrd.1
        rw [← hl] at hc1 hfl hro
        rw [← hwho] at hc0 hfl
        have hsz := hB.size
        have hg1 := (World.grownBy_alloc wr (.cells #[.int .i64 who, .slice r l c2] 52) none)
        have hown1 : (wr.alloc (.cells #[.int .i64 who, .slice r l c2] 52)).ownsRow w.heap.size 53 2 (.slice (some ⟨g, 0, none⟩) q cap) q (flatT ts vs q) := hown.alloc _
        have hB1 : Below w.heap.size w (wr.alloc (.cells #[.int .i64 who, .slice r l c2] 52)) := hB.alloc hsz _
        obtain ⟨w3, hw3⟩ : ∃ w3, w3 = wr.alloc (.cells #[.int .i64 who, .slice r l c2] 52) := ⟨_, rfl⟩
        have hp : w3.heap[wr.heap.size]? = some (.cells #[.int .i64 who, .slice r l c2] 52 (0, 0)) := by rw [hw3]; exact heap_alloc_new wr _
        have q0 := cell_of_row w3 wr.heap.size 0 _ _ _ hp
        have q1 := cell_of_row w3 wr.heap.size 1 _ _ _ hp
        simp only [List.getElem?_toArray, List.getElem?_cons_zero, List.getElem?_cons_succ] at q0 q1
        rw [← hw3] at hown1 hB1
        have HOW := Lib.hid hown1; have HB1 := Lib.hid hB1; have HFL := Lib.hid hfl; have HRO := Lib.hid hro; have HW3 := Lib.hid hw3
        have hs3 := hB1.size
        clear hrows hown hB hfl hro hg1 hown1 hB1 hp hw3 hwho hl hvq hrd hc0w hc1w HW
        by_cases hl20 : 20 < l
        · go_wp2
          go_ret
          exact ⟨rfl, by rw [← HW3.out]; exact HB1.out⟩
        have ho4 : ((wr.alloc (.cells #[.int .i64 who, .slice r l c2] 52)).alloc (.cells #[.int .i64 who, .slice r l c2] 53)).ownsRow w.heap.size 53 2 (.slice (some ⟨g, 0, none⟩) q cap) q (flatT ts vs q) := by
          rw [← HW3.out]; exact HOW.out.alloc _
        have hn4 : ∀ j u, ([.int .i64 who, .slice r l c2] : List Value)[j]? = some u → ((wr.alloc (.cells #[.int .i64 who, .slice r l c2] 52)).alloc (.cells #[.int .i64 who, .slice r l c2] 53)).cell? ((⟨wr.heap.size + 1, 0, none⟩ : Addr).add j) = some u := by
          have hb := heap_alloc_new (wr.alloc (.cells #[.int .i64 who, .slice r l c2] 52)) (.cells #[.int .i64 who, .slice r l c2] 53)
          rw [World.size_alloc] at hb
          intro j u hu
          rw [Addr.add_lit, Nat.zero_add, cell_of_row _ _ j _ _ _ hb]
          simpa using hu
        have hb4 : w.heap.size ≤ ((wr.alloc (.cells #[.int .i64 who, .slice r l c2] 52)).alloc (.cells #[.int .i64 who, .slice r l c2] 53)).heap.size := by simp; omega
        have HO4 := Lib.hid ho4; have HN4 := Lib.hid hn4; have HB4 := Lib.hid hb4
        clear ho4 hn4 hb4
        go_wp2_with (at_builtin; go_loud (refine wpList_append_own _ rfl (.tmp 30) (.tmp 32) 50 rfl w.heap.size 53 i0 (.agg #[.int .i64 0, .slice none 0 0]) 2 32 Try.underlying50 hi hz0 hz1 hz2 rfl (by decide) _ q _ rfl HO4.out ⟨wr.heap.size + 1, 0, none⟩ 1 1 [.int .i64 who, .slice r l c2] rfl rfl HN4.out (by intro u hu; simp at hu; rcases hu with rfl | rfl <;> rfl) (by unfold maxLen; omega) (by omega) HB4.out ?_))
        intro v5 w5 hown5 hg5 hnil5
        obtain ⟨g5, cap5, rfl, hg5', hg5'', _⟩ := own_shape2 hown5 (fun e => by simp [e] at hnil5)
        have hW' : TW w.heap.size m (q + 1) ts vs g5 cap5 w w5 := by
          refine ⟨by rw [HFL.out]; exact hown5, ?_, HRO.out (by omega)⟩
          have h4 : Below w.heap.size w ((wr.alloc (.cells #[.int .i64 who, .slice r l c2] 52)).alloc (.cells #[.int .i64 who, .slice r l c2] 53)) := by
            rw [← HW3.out]; exact HB1.out.alloc hs3 _
          obtain ⟨ge, cape, e1, hge, _⟩ := own_shape2 HOW.out (by simp)
          have hgg : g = ge := by simp at e1; exact e1.1
          exact h4.grown hg5 HB4.out (by intro k hk; simp [Value.ownBlock] at hk; omega)
        have HW' := Lib.hid hW'
        clear hown5 hg5 hnil5 hW' HO4 HN4 HB4 HW3 HFL HRO HOW HB1 q0 q1 hc0 hc1
        go_wp2
        go_roundw
        case rel => exact ⟨q + 1, g5, cap5, by omega, by go_num, rfl, HW'⟩
        case measure => simp [intOf]; omega
      · obtain rfl : q = m := by omega
        have hT : RdTurns wr (some ⟨g, 0, none⟩) ts := by
          have h := HW.out
          rw [Hm.out] at h
          exact h.turns HV.out (by rw [← Hm.out]; omega)
        have hro := HW.out.rows
        have hB := HW.out.below
        have HT := Lib.hid hT; have HRO := Lib.hid hro; have HB3 := Lib.hid hB
        clear hT hro hB HW
        have hs3 := HB3.out.size
        obtain ⟨S, hS⟩ : ∃ S, S = ((n + plW pl : Nat) : Int) := ⟨_, rfl⟩
        have hw1 := fun W h => work_walk pl n Hn.out a ca W h HSM.out
        have hw2 := fun W h => refWork_walk pl n Hn.out a ca W h HSM.out
        rw [← hS] at hw1 hw2
        have HW1 := Lib.hid hw1; have HW2 := Lib.hid hw2
        clear hw1 hw2 hS
        go_wp2_with fail
        refine (HW1.out wr (H1.out.below HB3.out (Nat.le_refl _))).mono ?_
        rintro e w4 ⟨rfl, hb⟩
        have HB4 : Hid (Below w.heap.size w w4) := HB3.out.trans (hb.mono hs3)
        have HG4 : Hid (Below wr.heap.size wr w4) := hb
        clear hb
        go_wp2_with fail
        refine (HW2.out w4 (H1.out.below HB4.out (Nat.le_refl _))).mono ?_
        rintro e w5 ⟨rfl, hb⟩
        have HB5 : Hid (Below w.heap.size w w5) := HB4.out.trans (hb.mono HB4.out.size)
        have HG5 : Hid (Below wr.heap.size wr w5) := HG4.out.trans (hb.mono HG4.out.size)
        clear hb
        go_wp2_with fail
        refine (bound_walk pl n Hn.out a ca k w5 (H1.out.below HB5.out (Nat.le_refl _)) HSM.out).mono ?_
        rintro e w6 ⟨⟨bd, rfl, hbd⟩, hb⟩
        have HB6 : Hid (Below w.heap.size w w6) := HB5.out.trans (hb.mono HB5.out.size)
        have HG6 : Hid (Below wr.heap.size wr w6) := HG5.out.trans (hb.mono HG5.out.size)
        have HBD := Lib.hid hbd
        clear hb hbd
        go_wp2_with fail
        refine (refBound_walk pl n Hn.out a ca k w6 (H1.out.below HB6.out (Nat.le_refl _)) HSM.out).mono ?_
        rintro e w7 ⟨⟨bd', rfl, hbd⟩, hb⟩
        obtain rfl := boundIs_one HBD.out hbd
        have HB7 : Hid (Below w.heap.size w w7) := HB6.out.trans (hb.mono HB6.out.size)
        have HG7 : Hid (Below wr.heap.size wr w7) := HG6.out.trans (hb.mono HG6.out.size)
        clear hb hbd HBD
        go_wp2_with fail
        refine (fair_walk ts q Hm.out _ cap k w7 (HT.out.below HG7.out (Nat.le_refl _)) (by omega) HRO.out (fun i hi => HWF.out i (by rw [← Hm.out]; exact hi))).mono ?_
        rintro e w8 ⟨⟨fr, rfl, hfr⟩, hb⟩
        have HB8 : Hid (Below w.heap.size w w8) := HB7.out.trans (hb.mono HB7.out.size)
        have HFR := Lib.hid hfr
        clear hb hfr
        go_wp2_with fail
        refine (refFair_walk ts q Hm.out b cb hmb k hk63 w8 (H2.out.below HB8.out (Nat.le_refl _)) (by omega)).mono ?_
        rintro e w9 ⟨⟨fr', rfl, hfr⟩, hb⟩
        obtain rfl := fairIs_one HFR.out hfr
        have HB9 : Hid (Below w.heap.size w w9) := HB8.out.trans (hb.mono HB8.out.size)
        clear hb hfr HFR
        go_wp2
        go_ret
        exact ⟨by simp, HB9.out⟩
  · go_wp2
    go_ret
    exact ⟨rfl, HB2.out⟩
end Go.Proofs.Yteffilepolbgbaa
