/- The law DiceKeeps, walked: what becomes of the list behind a Dice changes nothing; skipped are as drawn. -/
import Derived.Test.YteffilepolbgbaaDiceLaw2
import Derived.Test.YteffilepolbgbaaSkip2
import Derived.Laws.AppendOwnNone
namespace Go.Proofs.Yteffilepolbgbaa
open Go.RowKit
set_option linter.unusedVariables false

theorem own_rd {B e : Nat} {k : IntKind} {w : World} {v : Value} {zs : List Int} (h : w.ownsRow B e 1 v zs.length (zs.map (Value.int k))) (hl : zs.length ≤ 9223372036854775807) : ∃ ao cap, v = .slice ao zs.length cap ∧ Rd k w ao zs := by
  rcases h.2 with ⟨rfl, h0⟩ | ⟨g, cap, cur, rfl, hB, hg, hn, hc, hs, ht⟩
  · refine ⟨none, 0, by rw [h0], hl, fun h1 => by omega⟩
  · refine ⟨some ⟨g, 0, none⟩, cap, rfl, hl, fun h1 => ⟨g, 0, rfl, fun j hj => ?_⟩⟩
    have := World.ownsRow.cellAt (g := g) (cap := cap) h j (by simpa using hj)
    rw [Nat.zero_add, this]
    simp [hj]

theorem drawV_low (l : List Int) (k : Nat) (s : Int) (h : s < 1) : drawV l k s = 0 := by unfold drawV; rw [if_pos (.inl h)]
theorem drawV_in (l : List Int) (k : Nat) (s : Int) (h : 1 ≤ s) : 0 ≤ drawV l k s ∧ drawV l k s < s := by
  unfold drawV
  split
  · omega
  · exact ⟨Int.emod_nonneg _ (by omega), Int.emod_lt_of_pos _ (by omega)⟩
theorem drawK_one (l : List Int) (k : Nat) (h : k < l.length) : drawK l k 1 = k + 1 := by unfold drawK; rw [if_neg (by omega)]

/-- What the law makes ahead of its loops: two dice of the list l, and a row of its own of as many numbers. -/
structure Made (B : Nat) (w0 w : World) (l : List Int) (g c pa ga pb gb n ka kb : Nat) : Prop where
  row : ∃ zs : List Int, zs.length = n ∧ (∀ j, 0 ≤ zs.getD j 0 ∧ zs.getD j 0 < 65536) ∧ w.ownsRow B 32 1 (.slice (some ⟨g, 0, none⟩) n c) n (zs.map (Value.int .u16))
  da : DiceAt w pa ga l ka
  db : DiceAt w pb gb l kb
  below : Below B w0 w
  bg : B ≤ g
  bpa : B ≤ pa
  bpb : B ≤ pb
  n1 : g ≠ pa
  n2 : g ≠ ga
  n3 : g ≠ pb
  n4 : g ≠ gb
  n5 : pa ≠ pb
  n6 : ga ≠ pb
  n7 : gb ≠ pa

theorem Made.stepA {B : Nat} {w0 w w' : World} {l : List Int} {g c pa ga pb gb n ka kb ka' : Nat} (h : Made B w0 w l g c pa ga pb gb n ka kb) (d : DiceAt w' pa ga l ka') (t : Touch pa w w') :
    Made B w0 w' l g c pa ga pb gb n ka' kb := by
  obtain ⟨zs, hz, hr, ho⟩ := h.row
  exact ⟨⟨zs, hz, hr, ho.kept ⟨t.os, t.tape, t.output, by rw [t.size]; exact Nat.le_refl _, fun k _ hk => t.block k (fun e => hk (by rw [e]))⟩ (.inr (by simp [Value.ownBlock]; exact h.n1))⟩, d, h.db.other t (fun e => h.n5 e.symm) h.n7, h.below.trans (t.below h.bpa), h.bg, h.bpa, h.bpb, h.n1, h.n2, h.n3, h.n4, h.n5, h.n6, h.n7⟩
theorem Made.stepB {B : Nat} {w0 w w' : World} {l : List Int} {g c pa ga pb gb n ka kb kb' : Nat} (h : Made B w0 w l g c pa ga pb gb n ka kb) (d : DiceAt w' pb gb l kb') (t : Touch pb w w') :
    Made B w0 w' l g c pa ga pb gb n ka kb' := by
  obtain ⟨zs, hz, hr, ho⟩ := h.row
  exact ⟨⟨zs, hz, hr, ho.kept ⟨t.os, t.tape, t.output, by rw [t.size]; exact Nat.le_refl _, fun k _ hk => t.block k (fun e => hk (by rw [e]))⟩ (.inr (by simp [Value.ownBlock]; exact h.n3))⟩, h.da.other t h.n5 h.n6, d, h.below.trans (t.below h.bpb), h.bg, h.bpa, h.bpb, h.n1, h.n2, h.n3, h.n4, h.n5, h.n6, h.n7⟩
theorem Made.drewN {B : Nat} {w0 w : World} {l : List Int} {g c pa ga pb gb n ka kb : Nat} (h : Made B w0 w l g c pa ga pb gb n ka kb) (q : Nat) : Made B w0 (w.drewN q) l g c pa ga pb gb n ka kb :=
  h.stepA (h.da.drewN q) (touch_drewN pa w q)
theorem Made.store {B : Nat} {w0 w : World} {l : List Int} {g c pa ga pb gb n ka kb : Nat} (h : Made B w0 w l g c pa ga pb gb n ka kb) (j : Nat) (x : Int) (hx : 0 ≤ x ∧ x < 65536) :
    Made B w0 (w.setCell ⟨g, j, none⟩ (.int .u16 x)) l g c pa ga pb gb n ka kb := by
  obtain ⟨zs, hz, hr, ho⟩ := h.row
  have t : Touch g w (w.setCell ⟨g, j, none⟩ (.int .u16 x)) := touch_set g j w _ 0
  refine ⟨⟨zs.set j x, by simp [hz], fun i => ?_, by rw [List.map_set]; exact (ho.stored j _).1⟩, h.da.other t (fun e => h.n1 e.symm) (fun e => h.n2 e.symm), h.db.other t (fun e => h.n3 e.symm) (fun e => h.n4 e.symm), h.below.trans (t.below h.bg), h.bg, h.bpa, h.bpb, h.n1, h.n2, h.n3, h.n4, h.n5, h.n6, h.n7⟩
  have := hr i
  rw [List.getD_eq_getElem?_getD, List.getElem?_set] at *
  split
  · split <;> simp_all
  · exact this
theorem Made.cell {B : Nat} {w0 w : World} {l : List Int} {g c pa ga pb gb n ka kb : Nat} (h : Made B w0 w l g c pa ga pb gb n ka kb) (j : Nat) (hj : j < n) :
    ∃ x, 0 ≤ x ∧ x < 65536 ∧ w.cell? ⟨g, j, none⟩ = some (.int .u16 x) ∧ w.frozen? ⟨g, j, none⟩ = false := by
  obtain ⟨zs, hz, hr, ho⟩ := h.row
  refine ⟨zs.getD j 0, (hr j).1, (hr j).2, ?_, ho.frozenAt j⟩
  rw [ho.cellAt j (by omega)]
  simp [List.getD, hz, hj]
end Go.Proofs.Yteffilepolbgbaa
