/- A slice of integers that came in, with its capacity. -/
import Derived.Test.YteffilepolbgbaaOpen
namespace Go.Proofs.Yteffilepolbgbaa
open Go.ChangeShapes Go.WideShapes Go.ChangeAt Go.RowKit Go.Deep

theorem open_rdc {H : Type} {enc : TypeId × Value → H} {W : World} {r : Reach} {b0 T E : Nat} {k : IntKind} {v : Value} {d : DataW H} {p : List MemPlace} (ht : Try.prog.underlying T = some (.slice E)) (he : Try.prog.underlying E = some (.int k)) (hc : Try.prog.cellsOf E = 1)
    (hv : Value.okWide Try.prog W r b0 T v) (hd : DataW.Trod enc Try.prog W 0 (fun _ => true) true T v d p) :
    ∃ a n c, v = .slice a n c ∧ ∃ zs : List Int, n = zs.length ∧ Rd k W a zs ∧ (∀ z ∈ zs, (Lit.int k z).wf = true) ∧ n ≤ c := by
  obtain ⟨a, n, c, rfl, zs, h1, h2, h3⟩ := open_rd ht he hc hv hd
  refine ⟨a, n, c, rfl, zs, h1, h2, h3, ?_⟩
  obtain ⟨fuel, hf⟩ := hd
  rcases open_ints ht he hc hf with ⟨hcs, _⟩ | ⟨x, l, c', zs, hcs, _, hl, _⟩
  · simp [Value.cells] at hcs
    obtain ⟨rfl, rfl, rfl⟩ := hcs
    omega
  · simp [Value.cells] at hcs
    obtain ⟨rfl, rfl, rfl⟩ := hcs
    exact hl
end Go.Proofs.Yteffilepolbgbaa
