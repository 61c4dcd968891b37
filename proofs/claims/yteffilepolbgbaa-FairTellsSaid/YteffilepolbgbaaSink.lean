/- order.sink: a heap but at one place becomes a heap. -/
import Derived.Test.YteffilepolbgbaaShuf
namespace Go.Proofs.Yteffilepolbgbaa
open Go.RowKit
set_option linter.unusedVariables false

/-- What a sink leaves: the row holds a heap from the place on; nothing else was written. -/
def SunkTo (B g c n m lo : Nat) (zs : List Int) (w : World) (e : Ending) (w' : World) : Prop :=
  e = .returned (.tuple #[]) ∧ ∃ zs' : List Int, Sunk m zs zs' ∧ HeapFrom zs' m lo ∧ w'.ownsRow B 3 1 (.slice (some ⟨g, 0, none⟩) n c) n (zs'.map (Value.int .i64)) ∧ w.grownBy w' (some g) ∧ w'.heap.size = w.heap.size

/-- The world of a round. -/
structure SinkRel (B g c n m lo : Nat) (zs : List Int) (w : World) (k : Nat) (zk : List Int) (wr : World) : Prop where
  sunk : Sunk m zs zk
  hole : HoleAt zk m lo k
  own : wr.ownsRow B 3 1 (.slice (some ⟨g, 0, none⟩) n c) n (zk.map (Value.int .i64))
  grown : w.grownBy wr (some g)
  size : wr.heap.size = w.heap.size

theorem grown_trans {u v w : World} {r : Option Nat} (h : u.grownBy v r) (k : v.grownBy w r) : u.grownBy w r :=
  ⟨k.os.trans h.os, k.tape.trans h.tape, k.output.trans h.output, Nat.le_trans h.size k.size, fun i hi hr => (k.block i (by have := h.size; omega) hr).trans (h.block i hi hr)⟩

theorem own_cell {B g c n : Nat} {w : World} {zs : List Int} (h : w.ownsRow B 3 1 (.slice (some ⟨g, 0, none⟩) n c) n (zs.map (Value.int .i64))) (j : Nat) (hj : j < n) :
    w.cell? ⟨g, j, none⟩ = some (.int .i64 (zs.getD j 0)) := by
  have hl : zs.length = n := by have := h.1; simpa using this
  rw [h.cellAt j (by omega)]
  simp [List.getD, hl, hj]

theorem SinkRel.drewN {B g c n m lo k : Nat} {zs zk : List Int} {w wr : World} (h : SinkRel B g c n m lo zs w k zk wr) (q : Nat) : SinkRel B g c n m lo zs w k zk (wr.drewN q) :=
  ⟨h.sunk, h.hole, h.own, ⟨h.grown.os, h.grown.tape, h.grown.output, h.grown.size, h.grown.block⟩, h.size⟩

theorem sink_next {B g c n m lo k d : Nat} {zs zk : List Int} {w wr : World} (h : SinkRel B g c n m lo zs w k zk wr) (hlen : zs.length = n) (hmn : m ≤ n) (hd : d = 2 * k + 1 ∨ d = 2 * k + 2) (hdm : d < m) (hlo : lo ≤ k)
    (hgt : zk.getD k 0 ≤ zk.getD d 0) (hsib : ∀ d', d' < m → (d' = 2 * k + 1 ∨ d' = 2 * k + 2) → zk.getD d' 0 ≤ zk.getD d 0) (q : Nat) :
    SinkRel B g c n m lo zs w d (swapL zk k d) (((wr.setCell ⟨g, k, none⟩ (.int .i64 (zk.getD d 0))).setCell ⟨g, d, none⟩ (.int .i64 (zk.getD k 0))).drewN q) := by
  have hl := h.sunk.len
  have h1 := (h.own.stored k (.int .i64 (zk.getD d 0)))
  have h2 := (h1.1.stored d (.int .i64 (zk.getD k 0)))
  refine ⟨h.sunk.trans (.swap (by omega) hdm (by omega)), hole_down h.hole (by omega) hd hdm hlo hgt hsib, swap_own h.own rfl rfl, grown_trans h.grown (grown_trans h1.2 ⟨h2.2.os, h2.2.tape, h2.2.output, h2.2.size, h2.2.block⟩), ?_⟩
  show ((wr.setCell _ _).setCell _ _).heap.size = _
  rw [← h.size]
  simp [World.setCell]

set_option maxHeartbeats 2000000 in
theorem sink_any (B g c n m lo c' : Nat) (zs : List Int) (w : World) (hmn : m ≤ n) (hn : n ≤ 1000) (hlo : lo ≤ m) (hlen : zs.length = n) (hh : HeapFrom zs m (lo + 1))
    (hown : w.ownsRow B 3 1 (.slice (some ⟨g, 0, none⟩) n c) n (zs.map (Value.int .i64))) :
    Calls Try.prog 55 #[.slice (some ⟨g, 0, none⟩) m c', .int .i64 lo] w (SunkTo B g c n m lo zs w) := by
  have HR : SinkRel B g c n m lo zs w lo zs w := ⟨.refl _ _, hole_start hh, hown, World.grownBy.refl _ _, rfl⟩
  have HRH := Lib.hid HR
  have Hlen := Lib.hid hlen
  clear HR hh hown hlen
  go_enter Try.func55, Try.ntmps55
  go_wp2
  go_loopw [1, 4] (fun a _ wr => ∃ (k : Nat) (zk : List Int), lo ≤ k ∧ k ≤ m ∧ a = .int .i64 k ∧ Hid (SinkRel B g c n m lo zs w k zk wr)) (fun a _ _ => m - (intOf a).toNat)
  case atStart => exact ⟨lo, zs, Nat.le_refl _, hlo, rfl, HRH⟩
  case round =>
    clear HRH
    obtain ⟨k, zk, hk1, hk2, rfl, HR⟩ := hrel
    by_cases c1 : 2 * k + 1 < m
    · have t1 : 2 * (k : Int) + 1 < (m : Int) := by omega
      have p1 : (0 : Int) ≤ 2 * (k : Int) + 1 := by omega
      have p2 : (0 : Int) ≤ 2 * (k : Int) + 1 + 1 := by omega
      have e1 : (2 * (k : Int) + 1).toNat = 2 * k + 1 := by omega
      have e2 : (2 * (k : Int) + 1 + 1).toNat = 2 * k + 2 := by omega
      obtain ⟨x, hx⟩ := named (zk.getD k 0)
      obtain ⟨y, hy⟩ := named (zk.getD (2 * k + 1) 0)
      have cx := own_cell HR.out.own k (by omega)
      have cy := own_cell HR.out.own (2 * k + 1) (by omega)
      rw [← hx.out] at cx
      rw [← hy.out] at cy
      have fx := HR.out.own.frozenAt k
      have fy := HR.out.own.frozenAt (2 * k + 1)
      by_cases c2 : 2 * k + 2 < m
      · have t2 : 2 * (k : Int) + 1 + 1 < (m : Int) := by omega
        obtain ⟨z, hz⟩ := named (zk.getD (2 * k + 2) 0)
        have cz := own_cell HR.out.own (2 * k + 2) (by omega)
        rw [← hz.out] at cz
        have fz := HR.out.own.frozenAt (2 * k + 2)
        by_cases d2 : y < z
        · by_cases d3 : z ≤ x
          · go_wp2_with fail
            go_quiet (fail)
            go_wp2_with fail
            go_quiet (fail)
            go_wp2
            exact bodyPost_ret (v := .tuple #[]) (results_none rfl _ _ _) rfl ⟨rfl, zk, HR.out.sunk, hole_done HR.out.hole (by rw [← hy.out, ← hx.out]; omega) (fun _ => by rw [← hz.out, ← hx.out]; exact d3), ((HR.out.drewN _).drewN _).own, ((HR.out.drewN _).drewN _).grown, ((HR.out.drewN _).drewN _).size⟩
          · go_wp2_with fail
            go_quiet (fail)
            go_wp2_with fail
            go_quiet (fail)
            go_wp2_with fail
            generalize hwq : wr.drewN _ = wq
            have ci : wq.cell? ⟨g, k, none⟩ = some (.int .i64 x) := by rw [← hwq]; exact cx
            have cd : wq.cell? ⟨g, 2 * k + 2, none⟩ = some (.int .i64 z) := by rw [← hwq]; exact cz
            have fi : wq.frozen? ⟨g, k, none⟩ = false := by rw [← hwq]; exact fx
            have fd : wq.frozen? ⟨g, 2 * k + 2, none⟩ = false := by rw [← hwq]; exact fz
            go_region
            go_wp2
            go_roundw
            case rel =>
              obtain ⟨q, hq⟩ : ∃ q, wq = wr.drewN q := ⟨_, hwq.symm⟩
              refine ⟨2 * k + 2, swapL zk k (2 * k + 2), by omega, by omega, by go_num, ?_⟩
              rw [hq, hx.out, hz.out]
              exact sink_next ((HR.out.drewN q).drewN _) Hlen.out hmn (.inr rfl) (by omega) (by omega) (by rw [← hx.out, ← hz.out]; omega) (by
                intro d' hd' h
                rcases h with rfl | rfl
                · rw [← hy.out, ← hz.out]; omega
                · exact Int.le_refl _) 0
            case measure => simp [intOf]; omega
        · by_cases d3 : y ≤ x
          · go_wp2_with fail
            go_quiet (fail)
            go_wp2_with fail
            go_quiet (fail)
            go_wp2
            exact bodyPost_ret (v := .tuple #[]) (results_none rfl _ _ _) rfl ⟨rfl, zk, HR.out.sunk, hole_done HR.out.hole (by rw [← hy.out, ← hx.out]; exact d3) (fun _ => by rw [← hz.out, ← hx.out]; omega), ((HR.out.drewN _).drewN _).own, ((HR.out.drewN _).drewN _).grown, ((HR.out.drewN _).drewN _).size⟩
          · go_wp2_with fail
            go_quiet (fail)
            go_wp2_with fail
            go_quiet (fail)
            go_wp2_with fail
            generalize hwq : wr.drewN _ = wq
            have ci : wq.cell? ⟨g, k, none⟩ = some (.int .i64 x) := by rw [← hwq]; exact cx
            have cd : wq.cell? ⟨g, 2 * k + 1, none⟩ = some (.int .i64 y) := by rw [← hwq]; exact cy
            have fi : wq.frozen? ⟨g, k, none⟩ = false := by rw [← hwq]; exact fx
            have fd : wq.frozen? ⟨g, 2 * k + 1, none⟩ = false := by rw [← hwq]; exact fy
            go_region
            go_wp2
            go_roundw
            case rel =>
              obtain ⟨q, hq⟩ : ∃ q, wq = wr.drewN q := ⟨_, hwq.symm⟩
              refine ⟨2 * k + 1, swapL zk k (2 * k + 1), by omega, by omega, by go_num, ?_⟩
              rw [hq, hx.out, hy.out]
              exact sink_next ((HR.out.drewN q).drewN _) Hlen.out hmn (.inl rfl) (by omega) (by omega) (by rw [← hx.out, ← hy.out]; omega) (by
                intro d' hd' h
                rcases h with rfl | rfl
                · exact Int.le_refl _
                · rw [← hz.out, ← hy.out]; omega) 0
            case measure => simp [intOf]; omega
      · have t2 : decide (2 * (k : Int) + 1 + 1 < (m : Int)) = false := by simp; omega
        by_cases d3 : y ≤ x
        · go_wp2_with fail
          go_quiet (fail)
          go_wp2_with fail
          go_quiet (fail)
          go_wp2
          exact bodyPost_ret (v := .tuple #[]) (results_none rfl _ _ _) rfl ⟨rfl, zk, HR.out.sunk, hole_done HR.out.hole (by rw [← hy.out, ← hx.out]; exact d3) (fun h => by omega), ((HR.out.drewN _).drewN _).own, ((HR.out.drewN _).drewN _).grown, ((HR.out.drewN _).drewN _).size⟩
        · go_wp2_with fail
          go_quiet (fail)
          go_wp2_with fail
          go_quiet (fail)
          go_wp2_with fail
          generalize hwq : wr.drewN _ = wq
          have ci : wq.cell? ⟨g, k, none⟩ = some (.int .i64 x) := by rw [← hwq]; exact cx
          have cd : wq.cell? ⟨g, 2 * k + 1, none⟩ = some (.int .i64 y) := by rw [← hwq]; exact cy
          have fi : wq.frozen? ⟨g, k, none⟩ = false := by rw [← hwq]; exact fx
          have fd : wq.frozen? ⟨g, 2 * k + 1, none⟩ = false := by rw [← hwq]; exact fy
          go_region
          go_wp2
          go_roundw
          case rel =>
            obtain ⟨q, hq⟩ : ∃ q, wq = wr.drewN q := ⟨_, hwq.symm⟩
            refine ⟨2 * k + 1, swapL zk k (2 * k + 1), by omega, by omega, by go_num, ?_⟩
            rw [hq, hx.out, hy.out]
            exact sink_next ((HR.out.drewN q).drewN _) Hlen.out hmn (.inl rfl) (by omega) (by omega) (by rw [← hx.out, ← hy.out]; omega) (by
              intro d' hd' h
              rcases h with rfl | rfl
              · exact Int.le_refl _
              · omega) 0
          case measure => simp [intOf]; omega
    · go_wp2
      exact bodyPost_ret (v := .tuple #[]) (results_none rfl _ _ _) rfl ⟨rfl, zk, HR.out.sunk, hole_leaf HR.out.hole (by omega), HR.out.own, HR.out.grown, HR.out.size⟩
end Go.Proofs.Yteffilepolbgbaa
