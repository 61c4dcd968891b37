/- Plain words for slices that are read, and small facts that the walks of this seat use. -/
import Derived.Test.YteffilepolbgbaaRows
import Derived.WalkKit
import Derived.WalkSpells
import Derived.WalkLawsBesides
import Derived.Deep.QuietTactic
import Derived.BigQuiet
import Derived.BigRegion
import Derived.Deep.LoopGhost
import Derived.Deep.RegionHeld3
import Derived.Lib.Hide
namespace Go.Proofs.Yteffilepolbgbaa
open Go.RowKit

/-- A slice whose elements read as the integers of a list. -/
def Rd (k : IntKind) (w : World) (ao : Option Addr) (zs : List Int) : Prop :=
  zs.length ≤ 9223372036854775807 ∧ (0 < zs.length → ∃ b off, ao = some ⟨b, off, none⟩ ∧ ∀ j, j < zs.length → w.cell? ⟨b, off + j, none⟩ = some (.int k (zs.getD j 0)))

theorem Rd.at {k : IntKind} {w : World} {ao : Option Addr} {zs : List Int} (h : Rd k w ao zs) (i : Nat) (hi : i < zs.length) :
    ∃ b off, ao = some ⟨b, off, none⟩ ∧ w.cell? ⟨b, off + i, none⟩ = some (.int k (zs.getD i 0)) := by
  obtain ⟨b, off, e, h⟩ := h.2 (by omega)
  exact ⟨b, off, e, h i hi⟩

theorem Rd.len {k : IntKind} {w : World} {ao : Option Addr} {zs : List Int} (h : Rd k w ao zs) : zs.length ≤ 9223372036854775807 := h.1

theorem Rd.of_cells {k : IntKind} {w w' : World} {ao : Option Addr} {zs : List Int} (h : Rd k w ao zs) (hc : ∀ a v, w.cell? a = some v → w'.cell? a = some v) : Rd k w' ao zs := by
  refine ⟨h.1, fun h0 => ?_⟩
  obtain ⟨b, off, e, h⟩ := h.2 h0
  exact ⟨b, off, e, fun j hj => hc _ _ (h j hj)⟩

theorem Rd.drewN {k : IntKind} {w : World} {ao : Option Addr} {zs : List Int} (h : Rd k w ao zs) (q : Nat) : Rd k (w.drewN q) ao zs := h

theorem Rd.below {k : IntKind} {w w' : World} {B : Nat} {ao : Option Addr} {zs : List Int} (h : Rd k w ao zs) (hb : Below B w w') (hB : w.heap.size ≤ B) : Rd k w' ao zs := by
  refine h.of_cells fun a v hv => ?_
  rw [hb.cell (by have := World.block_lt_of_cell? w a hv; omega)]
  exact hv

theorem below_drewN {B : Nat} {a w : World} (h : Below B a w) (q : Nat) : Below B a (w.drewN q) := ⟨h.os, h.tape, h.output, h.size, h.block⟩

/-- An integer under a name of its own, its equation kept from the walk. -/
theorem named (x : Int) : ∃ y, Hid (y = x) := ⟨x, rfl⟩
end Go.Proofs.Yteffilepolbgbaa
