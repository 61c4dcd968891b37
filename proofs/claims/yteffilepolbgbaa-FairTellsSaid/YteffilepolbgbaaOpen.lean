/- Slices that came in, as the walks are told of them. -/
import Derived.Test.YteffilepolbgbaaFirst
import Derived.ProofKit
import Derived.OpenShut
import Derived.ShutString
import Derived.ChangeOld
import Derived.Deep.Grids
namespace Go.Proofs.Yteffilepolbgbaa
open Go.ChangeShapes Go.WideShapes Go.ChangeAt Go.RowKit Go.Deep

theorem own : ownKnob Try.prog.godebug = none := by kernel_rfl
theorem laidOut : laidOutB Try.prog = true := by kernel_rfl

theorem rng_u16 {zs : List Int} (h : ∀ z ∈ zs, (Lit.int .u16 z).wf = true) (j : Nat) : 0 ≤ zs.getD j 0 ∧ zs.getD j 0 < 65536 := by
  have := range_u16 h j
  rw [List.getD_eq_getElem?_getD]
  omega

section
variable {H : Type} {enc : TypeId × Value → H} {W : World}

theorem open_rd {r : Reach} {b0 T E : Nat} {k : IntKind} {v : Value} {d : DataW H} {p : List MemPlace} (ht : Try.prog.underlying T = some (.slice E)) (he : Try.prog.underlying E = some (.int k)) (hc : Try.prog.cellsOf E = 1)
    (hv : Value.okWide Try.prog W r b0 T v) (hd : DataW.Trod enc Try.prog W 0 (fun _ => true) true T v d p) :
    ∃ a n c, v = .slice a n c ∧ ∃ zs : List Int, n = zs.length ∧ Rd k W a zs ∧ ∀ z ∈ zs, (Lit.int k z).wf = true := by
  obtain ⟨a, n, c, rfl⟩ := okWide_slice ht hv
  obtain ⟨fuel, hf⟩ := hd
  refine ⟨a, n, c, rfl, ?_⟩
  rcases open_ints ht he hc hf with ⟨hcs, _⟩ | ⟨x, l, c', zs, hcs, _, hl, hm, hz, _, hcell, hwz⟩
  · simp [Value.cells] at hcs
    obtain ⟨rfl, rfl, rfl⟩ := hcs
    exact ⟨[], rfl, ⟨by simp, fun h => by simp at h⟩, by simp⟩
  · simp [Value.cells] at hcs
    obtain ⟨rfl, rfl, rfl⟩ := hcs
    have hzc : zs.length = c := by simpa using hz
    have hlen : (zs.take n).length = n := by simp; omega
    refine ⟨zs.take n, hlen.symm, ⟨by rw [hlen]; unfold maxLen at hm; omega, fun h0 => ?_⟩, fun z hz => hwz z (List.mem_of_mem_take hz)⟩
    obtain ⟨b, off, spot⟩ := x
    have hc0 := hcell 0 (by omega)
    have hspot : spot = none := by simpa [Addr.add] using World.cell?_spot hc0
    subst hspot
    refine ⟨b, off, rfl, fun j hj => ?_⟩
    have hj' : j < n := by omega
    have := hcell j (by omega)
    rw [Addr.add_lit] at this
    rw [this]
    simp [List.getD, hj']

theorem open_rdB {r : Reach} {b0 T E : Nat} {v : Value} {d : DataW H} {p : List MemPlace} (ht : Try.prog.underlying T = some (.slice E)) (he : Try.prog.underlying E = some .bool) (hc : Try.prog.cellsOf E = 1)
    (hv : Value.okWide Try.prog W r b0 T v) (hd : DataW.Trod enc Try.prog W 0 (fun _ => true) true T v d p) :
    ∃ a n c, v = .slice a n c ∧ ∃ bs : List Bool, n = bs.length ∧ RdB W a bs := by
  obtain ⟨a, n, c, rfl⟩ := okWide_slice ht hv
  obtain ⟨fuel, hf⟩ := hd
  refine ⟨a, n, c, rfl, ?_⟩
  rcases open_bools ht he hc hf with ⟨hcs, _⟩ | ⟨x, l, c', B, hcs, _, hl, hm, _, hcell⟩
  · simp [Value.cells] at hcs
    obtain ⟨rfl, rfl, rfl⟩ := hcs
    exact ⟨[], rfl, ⟨by simp, fun h => by simp at h⟩⟩
  · simp [Value.cells] at hcs
    obtain ⟨rfl, rfl, rfl⟩ := hcs
    refine ⟨(List.range n).map B, by simp, ⟨by simp; unfold maxLen at hm; omega, fun h0 => ?_⟩⟩
    simp at h0
    obtain ⟨b, off, spot⟩ := x
    have hc0 := hcell 0 (by omega)
    have hspot : spot = none := by simpa [Addr.add] using World.cell?_spot hc0
    subst hspot
    refine ⟨b, off, rfl, fun j hj => ?_⟩
    simp at hj
    have := hcell j (by omega)
    rw [Addr.add_lit] at this
    rw [this]
    simp [List.getD, hj]
end
end Go.Proofs.Yteffilepolbgbaa
