/- fair's ages: a turn more. -/
import Derived.Test.YteffilepolbgbaaAgesMap
import Derived.Test.YteffilepolbgbaaPlan
import Derived.Test.YteffilepolbgbaaNest
import Derived.Test.YteffilepolbgbaaDice
namespace Go.Proofs.Yteffilepolbgbaa
open Go.RowKit Go.Maps
set_option linter.unusedVariables false

/-- What turn makes of the elder ages. -/
def turnF (who : Int) (run : List Int) (f : Int → Int) (g : Int) : Int := if g ∈ run ∧ g ≠ who then f g + 1 else 0

theorem turnF_step (who : Int) (run : List Int) (f : Int → Int) (j : Nat) (g : Int) (hj : j < run.length) :
    turnF who (run.take (j + 1)) f g = if g = run.getD j 0 ∧ g ≠ who then f g + 1 else turnF who (run.take j) f g := by
  have hm : g ∈ run.take (j + 1) ↔ g ∈ run.take j ∨ g = run.getD j 0 := by
    have : run.getD j 0 = run[j] := by simp [List.getD, hj]
    rw [this, List.take_succ_eq_append_getElem hj, List.mem_append, List.mem_singleton]
  unfold turnF
  by_cases h1 : g = run.getD j 0 <;> by_cases h2 : g = who <;> by_cases h3 : g ∈ run.take j <;> simp [hm, h1, h2, h3]
  all_goals (first | omega | (subst h1; simp_all) | simp_all)

/-- Blocks but these stay what they were. -/
structure But (s b : Nat) (w w' : World) : Prop where
  os : w'.os = w.os
  tape : w'.tape = w.tape
  output : w'.output = w.output
  size : w.heap.size ≤ w'.heap.size
  block : ∀ k, k < w.heap.size → k ≠ s → k ≠ b → w'.heap[k]? = w.heap[k]?

theorem But.refl (s b : Nat) (w : World) : But s b w w := ⟨rfl, rfl, rfl, Nat.le_refl _, fun _ _ _ _ => rfl⟩
theorem But.trans {s b : Nat} {w w1 w2 : World} (h1 : But s b w w1) (h2 : But s b w1 w2) : But s b w w2 :=
  ⟨h2.os.trans h1.os, h2.tape.trans h1.tape, h2.output.trans h1.output, Nat.le_trans h1.size h2.size, fun k hk e1 e2 => (h2.block k (Nat.lt_of_lt_of_le hk h1.size) e1 e2).trans (h1.block k hk e1 e2)⟩
theorem But.of_grown {s b : Nat} {w w1 : World} (h : w.grownBy w1 (some b)) : But s b w w1 := ⟨h.os, h.tape, h.output, h.size, fun k hk _ e2 => h.block k hk (by simpa using e2)⟩
theorem But.rd {s b : Nat} {w w' : World} {ao : Option Addr} {zs : List Int} (h : Rd .i64 w ao zs) (hg : But s b w w') (hne : 0 < zs.length → ∀ b' off, ao = some ⟨b', off, none⟩ → b' ≠ s ∧ b' ≠ b) : Rd .i64 w' ao zs := by
  refine ⟨h.1, fun h0 => ?_⟩
  obtain ⟨b', off, e, hc⟩ := h.2 h0
  refine ⟨b', off, e, fun j hj => ?_⟩
  have hv := hc j hj
  rw [World.cell?_of_block (w := w) (hg.block b' (World.block_lt_of_cell? w _ hv) (hne h0 b' off e).1 (hne h0 b' off e).2)]
  exact hv

structure AgesAt (w : World) (s b1 b2 n1 n2 : Nat) (f1 f2 : Int → Int) : Prop where
  blk : w.heap[s]? = some (.cells #[.map (some b1), .map (some b2)] 75 (0, 0))
  m1 : OwnM w b1 n1 f1
  m2 : OwnM w b2 n2 f2
  ne1 : b1 ≠ s
  ne2 : b2 ≠ s
  ne : b1 ≠ b2

theorem AgesAt.lt {w : World} {s b1 b2 n1 n2 : Nat} {f1 f2 : Int → Int} (h : AgesAt w s b1 b2 n1 n2 f1 f2) : s < w.heap.size := (Array.getElem?_eq_some_iff.1 h.blk).1
theorem AgesAt.c0 {w : World} {s b1 b2 n1 n2 : Nat} {f1 f2 : Int → Int} (h : AgesAt w s b1 b2 n1 n2 f1 f2) : w.cell? ⟨s, 0, none⟩ = some (.map (some b1)) := by simp [World.cell?, h.blk]
theorem AgesAt.c1 {w : World} {s b1 b2 n1 n2 : Nat} {f1 f2 : Int → Int} (h : AgesAt w s b1 b2 n1 n2 f1 f2) : w.cell? ⟨s, 1, none⟩ = some (.map (some b2)) := by simp [World.cell?, h.blk]

set_option maxHeartbeats 2000000 in
theorem turn_walk {s b1 b2 n1 n2 m : Nat} {f1 f2 : Int → Int} {who : Int} {run : List Int} (r : Option Addr) (c : Nat) (w : World) (hm : m = run.length) (hm20 : m ≤ 20)
    (hA : AgesAt w s b1 b2 n1 n2 f1 f2) (hr : Rd .i64 w r run) (hwf : ∀ z ∈ run, (Lit.int .i64 z).wf = true) (hf : ∀ g, 0 ≤ f1 g ∧ f1 g ≤ 1000)
    (hrn : 0 < run.length → ∀ b off, r = some ⟨b, off, none⟩ → b ≠ s ∧ b ≠ b2) :
    Calls Try.prog 53 #[.pointer (some ⟨s, 0, none⟩), .agg #[.int .i64 who, .slice r m c]] w fun e w' => e = .returned (.tuple #[]) ∧ AgesAt w' s b2 b1 m n1 (turnF who run f1) f1 ∧ But s b2 w w' := by
  have hlt := hA.lt
  have hA1 : AgesAt (w.alloc (.cells #[.int .i64 who, .slice r m c] 53)) s b1 b2 n1 n2 f1 f2 := by
    have hg := World.grownBy_alloc w (.cells #[.int .i64 who, .slice r m c] 53) none
    exact ⟨(hg.block s hlt (by simp)).trans hA.blk, hA.m1.kept hg (by simp), hA.m2.kept hg (by simp), hA.ne1, hA.ne2, hA.ne⟩
  have HM := Lib.hid hm; have HA := Lib.hid hA; have HR := Lib.hid hr; have HF := Lib.hid hf; have HRN := Lib.hid hrn; have HWF := Lib.hid hwf; have HA1 := Lib.hid hA1
  clear hm hA hr hf hwf hA1 hrn
  go_enter Try.func53, Try.ntmps53
  go_wp2
  obtain ⟨w1, hw1⟩ : ∃ w1, w1 = w.alloc (.cells #[.int .i64 who, .slice r m c] 53) := ⟨_, rfl⟩
  have hp : w1.heap[w.heap.size]? = some (.cells #[.int .i64 who, .slice r m c] 53 (0, 0)) := by rw [hw1]; exact heap_alloc_new w _
  have hR1 : Rd .i64 w1 r run := by rw [hw1]; exact HR.out.below ((Below.refl w.heap.size w).alloc (Nat.le_refl _) _) (Nat.le_refl _)
  have hBut : But s b2 w w1 := by
    rw [hw1]
    exact ⟨rfl, rfl, rfl, by simp, fun k hk _ _ => Below.heap_alloc w _ k hk⟩
  rw [← hw1] at HA1
  rw [← hw1]
  have HBut := Lib.hid hBut
  have HR1 := Lib.hid hR1
  obtain ⟨p, hpp⟩ : ∃ p, p = w.heap.size := ⟨_, rfl⟩
  rw [← hpp] at hp
  rw [← hpp]
  have hps : p ≠ s := by have := HA.out.lt; omega
  have hpb1 : p ≠ b1 := by have := HA.out.m1.lt; omega
  have hpb2 : p ≠ b2 := by have := HA.out.m2.lt; omega
  have HP := Lib.hid hp
  clear hw1 HA HR hBut hR1 hp hpp
  have c0 := HA1.out.c0
  have c1 := HA1.out.c1
  have g0 := frozen_of_row w1 s 0 _ _ HA1.out.blk
  have g1 := frozen_of_row w1 s 1 _ _ HA1.out.blk
  go_region
  obtain ⟨w2, hw2⟩ : ∃ w2, w2 = ((w1.setCell ⟨s, 0, none⟩ (.map (some b2))).setCell ⟨s, 1, none⟩ (.map (some b1))).drew := ⟨_, rfl⟩
  have hoth : ∀ k, k ≠ s → w2.heap[k]? = w1.heap[k]? := fun k hk => by
    rw [hw2]
    show ((w1.setCell ⟨s, 0, none⟩ (.map (some b2))).setCell ⟨s, 1, none⟩ (.map (some b1))).heap[k]? = _
    rw [Below.heap_setCell _ _ _ _ (by simpa using hk), Below.heap_setCell _ _ _ _ (by simpa using hk)]
  have hblk : w2.heap[s]? = some (.cells #[.map (some b2), .map (some b1)] 75 (0, 0)) := by
    rw [hw2]
    have h1 := heap_setCell_same w1 s 0 _ _ (.map (some b2)) HA1.out.blk
    have h2 := heap_setCell_same _ s 1 _ _ (.map (some b1)) h1
    show ((w1.setCell ⟨s, 0, none⟩ (.map (some b2))).setCell ⟨s, 1, none⟩ (.map (some b1))).heap[s]? = _
    simpa using h2
  have hsz : w2.heap.size = w1.heap.size := by rw [hw2]; simp [World.setCell]
  have hg2 : w1.grownBy w2 (some s) := ⟨by rw [hw2]; rfl, by rw [hw2]; rfl, by rw [hw2]; rfl, by omega, fun k _ hk => hoth k fun e => hk (by rw [e])⟩
  rw [← hw2]
  have hA2 : AgesAt w2 s b2 b1 n2 n1 f2 f1 := ⟨hblk, HA1.out.m2.kept hg2 (by simpa using HA1.out.ne2), HA1.out.m1.kept hg2 (by simpa using HA1.out.ne1), HA1.out.ne2, HA1.out.ne1, Ne.symm HA1.out.ne⟩
  have HA2 := Lib.hid hA2
  have HP2 := Lib.hid ((hoth p hps).trans HP.out)
  have HG2 := Lib.hid hg2
  have d0 := hA2.c0
  clear hw2 hoth hblk hsz hg2 hA2 HA1 HP c0 c1 g0 g1
  obtain ⟨w3, hrun, hown3, hg3⟩ := HA2.out.m1.clear 0
  have hA3 : AgesAt w3 s b2 b1 0 n1 (turnF who (run.take 0) f1) f1 := by
    refine ⟨(hg3.block s HA2.out.lt (by simpa using fun e => HA2.out.ne1 e.symm)).trans HA2.out.blk, hown3.congr fun g _ => by simp [turnF], HA2.out.m2.kept hg3 (by simpa using Ne.symm HA2.out.ne), HA2.out.ne1, HA2.out.ne2, HA2.out.ne⟩
  have hbut3 : But s b2 w w3 := by
    have h1 := HBut.out; have h2 := HG2.out
    refine ⟨hg3.os.trans (h2.os.trans h1.os), hg3.tape.trans (h2.tape.trans h1.tape), hg3.output.trans (h2.output.trans h1.output), Nat.le_trans h1.size (Nat.le_trans h2.size hg3.size), fun k hk e1 e2 => ?_⟩
    have s1 := h1.size; have s2 := h2.size
    rw [hg3.block k (by omega) (by simpa using e2), h2.block k (by omega) (by simpa using e1), h1.block k hk e1 e2]
  have hp3 : w3.heap[p]? = some (.cells #[.int .i64 who, .slice r m c] 53 (0, 0)) := by
    rw [hg3.block p (Array.getElem?_eq_some_iff.1 HP2.out).1 (by simpa using hpb2)]; exact HP2.out
  have hr3 : Rd .i64 w3 r run := by
    have g2 := HG2.out
    have h2 : Rd .i64 w2 r run := But.rd (s := s) (b := b2) HR1.out ⟨g2.os, g2.tape, g2.output, g2.size, fun k hk e1 _ => g2.block k hk (by simpa using e1)⟩ HRN.out
    exact But.rd (s := s) (b := b2) h2 (But.of_grown hg3) HRN.out
  have HA3 := Lib.hid hA3; have HB3 := Lib.hid hbut3; have HP3 := Lib.hid hp3; have HR3 := Lib.hid hr3
  have q0 := cell_of_row w3 p 0 _ _ _ hp3
  have q1 := cell_of_row w3 p 1 _ _ _ hp3
  simp only [List.getElem?_toArray, List.getElem?_cons_zero, List.getElem?_cons_succ] at q0 q1
  clear hA3 hbut3 hp3 hr3 hown3 hg3 HA2 HP2 HG2 HBut HR1
  go_wp2
  go_loopw [5, 27] (fun _ i wr => ∃ j : Nat, j ≤ m ∧ i = .int .i64 j ∧ Hid (AgesAt wr s b2 b1 j n1 (turnF who (run.take j) f1) f1) ∧ Hid (But s b2 w3 wr)) (fun _ i _ => m - (intOf i).toNat)
  case atStart => exact ⟨0, Nat.zero_le _, rfl, HA3, ⟨rfl, rfl, rfl, Nat.le_refl _, fun _ _ _ _ => rfl⟩⟩
  case round =>
    obtain ⟨j, hj, rfl, HA, HB⟩ := hrel
    have hpw : wr.heap[p]? = some (.cells #[.int .i64 who, .slice r m c] 53 (0, 0)) := by
      rw [HB.out.block p (Array.getElem?_eq_some_iff.1 HP3.out).1 hps hpb2]; exact HP3.out
    have e0 := cell_of_row wr p 0 _ _ _ hpw
    simp only [List.getElem?_toArray, List.getElem?_cons_zero] at e0
    clear hpw
    by_cases hlt : j < m
    · obtain ⟨b3, o3, rfl, hz⟩ := (But.rd HR3.out HB.out HRN.out).at j (by rw [← HM.out]; exact hlt)
      have hzm : run.getD j 0 ∈ run := by
        have hj : j < run.length := by rw [← HM.out]; exact hlt
        have : run.getD j 0 = run[j] := by simp [List.getD, hj]
        rw [this]; exact List.getElem_mem hj
      have hzw := HWF.out _ hzm
      have hst := fun g => turnF_step who run f1 j g (by rw [← HM.out]; exact hlt)
      obtain ⟨z, hzz⟩ : ∃ z, z = run.getD j 0 := ⟨_, rfl⟩
      rw [← hzz] at hz hzw hst
      have HZW := Lib.hid hzw
      have HST := Lib.hid hst
      clear hzm hzz hzw hst
      by_cases hne : z = who
      · have HA' : Hid (AgesAt wr s b2 b1 (j + 1) n1 (turnF who (run.take (j + 1)) f1) f1) := by
          refine ⟨HA.out.blk, (HA.out.m1.congr fun g _ => ?_).mono (by omega), HA.out.m2, HA.out.ne1, HA.out.ne2, HA.out.ne⟩
          rw [HST.out g, if_neg (by rintro ⟨h1, h2⟩; exact h2 (h1.trans hne))]
        clear HA
        go_wp2
        go_roundw
        case rel => exact ⟨j + 1, by omega, by go_num, HA', HB⟩
        case measure => simp [intOf]; omega
      · have d0 := HA.out.c0
        have d1 := HA.out.c1
        have hlk := (show OwnM { wr with drawn := wr.drawn + 1 } b1 n1 f1 from HA.out.m2).lookup HZW.out
        have hfz := HF.out z
        obtain ⟨q, hq⟩ : ∃ q, q = f1 z := ⟨_, rfl⟩
        rw [← hq] at hlk hfz
        have HQ := Lib.hid hq; clear hq
        have hwq : IntKind.i64.wrap (q + 1) = q + 1 := IntWalk.i64_in _ (by omega)
        go_wp2
        have HWQ := Lib.hid hwq; clear hwq
        go_still_tail 12, (by kernel_rfl)
        refine wpStill_lookup rfl (.tmp 43) (.tmp 44) rfl b1 (.int .i64 z) (.int .i64 q) rfl rfl hlk ?_
        still_step
        refine wpStill_nil ?_
        change wpList _ _ _ _ _ wr.drew
        refine wpList_update_own rfl (.tmp 38) (.tmp 39) (.tmp 46) rfl b2 j (turnF who (run.take j) f1) z (IntKind.i64.wrap (q + 1)) rfl (show OwnM wr.drew b2 j _ from HA.out.m1) (by unfold maxLen; omega) rfl rfl HZW.out (by rw [HWQ.out]; simp [Lit.wf, IntKind.min, IntKind.max, IntKind.signed, IntKind.bits]; omega) ?_
        intro w5 hown5 hg5'
        have hg5 : wr.grownBy w5 (some b2) := ⟨hg5'.os, hg5'.tape, hg5'.output, hg5'.size, hg5'.block⟩
        clear hg5'
        rw [HWQ.out] at hown5
        have HA' : Hid (AgesAt w5 s b2 b1 (j + 1) n1 (turnF who (run.take (j + 1)) f1) f1) := by
          refine ⟨(hg5.block s HA.out.lt (by simpa using Ne.symm HA.out.ne1)).trans HA.out.blk, hown5.congr fun g _ => ?_, HA.out.m2.kept (row := some b2) hg5 (by simpa using Ne.symm HA.out.ne), HA.out.ne1, HA.out.ne2, HA.out.ne⟩
          rw [HST.out g, HQ.out]
          by_cases hgz : g = z
          · subst hgz; rw [if_pos rfl, if_pos ⟨rfl, hne⟩]
          · rw [if_neg hgz, if_neg (fun h => hgz h.1)]
        have HB' : Hid (But s b2 w3 w5) := HB.out.trans (But.of_grown hg5)
        clear HA HB hown5 hg5 hlk d0 d1
        go_wp2
        go_roundw
        case rel => exact ⟨j + 1, by omega, by go_num, HA', HB'⟩
        case measure => simp [intOf]; omega
    · obtain rfl : j = m := by omega
      have HA' : Hid (AgesAt wr s b2 b1 j n1 (turnF who run f1) f1) := by
        have := HA.out
        rw [List.take_of_length_le (by rw [← HM.out]; exact Nat.le_refl _)] at this
        exact this
      have HB' : Hid (But s b2 w wr) := HB3.out.trans HB.out
      clear HA HB
      go_wp2
      exact bodyPost_end (v := .tuple #[]) (results_none rfl _ _ _) rfl ⟨rfl, HA'.out, HB'.out⟩
end Go.Proofs.Yteffilepolbgbaa
