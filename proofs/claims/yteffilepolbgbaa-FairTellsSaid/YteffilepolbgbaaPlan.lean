/- Plans that came in: rows of operations, of which the walks ask the lengths alone. -/
import Derived.Test.YteffilepolbgbaaOpen
import Derived.Deep.Slices
import Derived.Deep.Fields
import Derived.ChangeSame
namespace Go.Proofs.Yteffilepolbgbaa
open Go.ChangeShapes Go.WideShapes Go.ChangeAt Go.RowKit Go.Deep

/-- A row of operations: how many cases each has. -/
def RdOps (w : World) (ao : Option Addr) (cs : List Nat) : Prop :=
  cs.length ≤ 9223372036854775807 ∧ ∀ j, j < cs.length → ∃ b off z0 z1 z2 z3 x cx b5, ao = some ⟨b, off, none⟩ ∧
    w.cell? ⟨b, off + j * 6, none⟩ = some (.int .i64 z0) ∧ w.cell? ⟨b, off + j * 6 + 1, none⟩ = some (.int .i64 z1) ∧ w.cell? ⟨b, off + j * 6 + 2, none⟩ = some (.int .i64 z2) ∧ w.cell? ⟨b, off + j * 6 + 3, none⟩ = some (.int .i64 z3) ∧
    w.cell? ⟨b, off + j * 6 + 4, none⟩ = some (.slice x (cs.getD j 0) cx) ∧ w.cell? ⟨b, off + j * 6 + 5, none⟩ = some (.bool b5) ∧ cs.getD j 0 ≤ 9223372036854775807

/-- A plan: its rows. -/
def RdPlan (w : World) (ao : Option Addr) (pl : List (List Nat)) : Prop :=
  pl.length ≤ 9223372036854775807 ∧ ∀ i, i < pl.length → ∃ b off r c, ao = some ⟨b, off, none⟩ ∧ w.cell? ⟨b, off + i, none⟩ = some (.slice r (pl.getD i []).length c) ∧ RdOps w r (pl.getD i [])

theorem RdOps.of_cells {w w' : World} {ao : Option Addr} {cs : List Nat} (h : RdOps w ao cs) (hc : ∀ a v, w.cell? a = some v → w'.cell? a = some v) : RdOps w' ao cs :=
  ⟨h.1, fun j hj => by
    obtain ⟨b, off, z0, z1, z2, z3, x, cx, b5, e, h0, h1, h2, h3, h4, h5, hl⟩ := h.2 j hj
    exact ⟨b, off, z0, z1, z2, z3, x, cx, b5, e, hc _ _ h0, hc _ _ h1, hc _ _ h2, hc _ _ h3, hc _ _ h4, hc _ _ h5, hl⟩⟩

theorem RdPlan.of_cells {w w' : World} {ao : Option Addr} {pl : List (List Nat)} (h : RdPlan w ao pl) (hc : ∀ a v, w.cell? a = some v → w'.cell? a = some v) : RdPlan w' ao pl :=
  ⟨h.1, fun i hi => by
    obtain ⟨b, off, r, c, e, h1, h2⟩ := h.2 i hi
    exact ⟨b, off, r, c, e, hc _ _ h1, h2.of_cells hc⟩⟩

theorem RdOps.below {w w' : World} {B : Nat} {ao : Option Addr} {cs : List Nat} (h : RdOps w ao cs) (hb : Below B w w') (hB : w.heap.size ≤ B) : RdOps w' ao cs := by
  refine h.of_cells fun a v hv => ?_
  rw [hb.cell (by have := World.block_lt_of_cell? w a hv; omega)]
  exact hv
theorem RdPlan.below {w w' : World} {B : Nat} {ao : Option Addr} {pl : List (List Nat)} (h : RdPlan w ao pl) (hb : Below B w w') (hB : w.heap.size ≤ B) : RdPlan w' ao pl := by
  refine h.of_cells fun a v hv => ?_
  rw [hb.cell (by have := World.block_lt_of_cell? w a hv; omega)]
  exact hv

/-- Turns: who, and who ran. -/
def RdTurns (w : World) (ao : Option Addr) (ts : List (Int × List Int)) : Prop :=
  ts.length ≤ 9223372036854775807 ∧ ∀ i, i < ts.length → ∃ b off r c, ao = some ⟨b, off, none⟩ ∧ w.cell? ⟨b, off + i * 2, none⟩ = some (.int .i64 (ts.getD i (0, [])).1) ∧
    w.cell? ⟨b, off + i * 2 + 1, none⟩ = some (.slice r (ts.getD i (0, [])).2.length c) ∧ Rd .i64 w r (ts.getD i (0, [])).2
theorem RdTurns.of_cells {w w' : World} {ao : Option Addr} {ts : List (Int × List Int)} (h : RdTurns w ao ts) (hc : ∀ a v, w.cell? a = some v → w'.cell? a = some v) : RdTurns w' ao ts :=
  ⟨h.1, fun i hi => by
    obtain ⟨b, off, r, c, e, h1, h2, h3⟩ := h.2 i hi
    exact ⟨b, off, r, c, e, hc _ _ h1, hc _ _ h2, h3.of_cells hc⟩⟩
theorem RdTurns.below {w w' : World} {B : Nat} {ao : Option Addr} {ts : List (Int × List Int)} (h : RdTurns w ao ts) (hb : Below B w w') (hB : w.heap.size ≤ B) : RdTurns w' ao ts := by
  refine h.of_cells fun a v hv => ?_
  rw [hb.cell (by have := World.block_lt_of_cell? w a hv; omega)]
  exact hv

section
variable {H : Type} {enc : TypeId × Value → H} {W : World}

theorem i64_le {k : Int} (h : (Lit.int .i64 k).wf = true) : k ≤ 9223372036854775807 := by
  simp [Lit.wf, IntKind.min, IntKind.max, IntKind.signed, IntKind.bits] at h
  omega

theorem trod_slice_len {T E f : Nat} {v : Value} {x : DataW H × List MemPlace} (ht : Try.prog.underlying T = some (.slice E)) (hd : DataW.trod enc Try.prog W 0 (fun _ => true) true f T [v] = some x) :
    ∃ a n c, v = .slice a n c ∧ n ≤ 9223372036854775807 := by
  rcases open_slice ht hd with ⟨hcs, _⟩ | ⟨a, n, c, m, n', D, Pl, hcs, _, hl, hm, _⟩
  · simp at hcs
    exact ⟨_, _, _, hcs, by omega⟩
  · simp at hcs
    exact ⟨_, _, _, hcs, by unfold maxLen at hm; omega⟩

theorem trod_rd {T E f : Nat} {k : IntKind} {v : Value} {x : DataW H × List MemPlace} (ht : Try.prog.underlying T = some (.slice E)) (he : Try.prog.underlying E = some (.int k)) (hc : Try.prog.cellsOf E = 1)
    (hf : DataW.trod enc Try.prog W 0 (fun _ => true) true f T [v] = some x) :
    ∃ a n c, v = .slice a n c ∧ ∃ zs : List Int, n = zs.length ∧ Rd k W a zs ∧ ∀ z ∈ zs, (Lit.int k z).wf = true := by
  rcases open_ints ht he hc hf with ⟨hcs, _⟩ | ⟨x, l, c', zs, hcs, _, hl, hm, hz, _, hcell, hwz⟩
  · simp at hcs
    exact ⟨_, _, _, hcs, [], rfl, ⟨by simp, fun h => by simp at h⟩, by simp⟩
  · simp at hcs
    have hzc : zs.length = c' := by simpa using hz
    have hlen : (zs.take l).length = l := by simp; omega
    refine ⟨_, _, _, hcs, zs.take l, hlen.symm, ⟨by rw [hlen]; unfold maxLen at hm; omega, fun h0 => ?_⟩, fun z hz => hwz z (List.mem_of_mem_take hz)⟩
    obtain ⟨b, off, spot⟩ := x
    have hc0 := hcell 0 (by omega)
    have hspot : spot = none := by simpa [Addr.add] using World.cell?_spot hc0
    subst hspot
    refine ⟨b, off, rfl, fun j hj => ?_⟩
    have hj' : j < l := by omega
    have := hcell j (by omega)
    rw [Addr.add_lit] at this
    rw [this]
    simp [List.getD, hj']

theorem list_of_choice {α : Type} (d : α) {p : Nat → α → Prop} (n : Nat) (h : ∀ i, i < n → ∃ x, p i x) : ∃ l : List α, l.length = n ∧ ∀ i, i < n → p i (l.getD i d) := by
  induction n with
  | zero => exact ⟨[], rfl, fun i hi => absurd hi (by omega)⟩
  | succ n ih =>
    obtain ⟨l, hl, hp⟩ := ih fun i hi => h i (by omega)
    obtain ⟨x, hx⟩ := h n (by omega)
    refine ⟨l ++ [x], by simp [hl], fun i hi => ?_⟩
    rcases Nat.lt_or_ge i n with h1 | h1
    · have := hp i h1
      rw [List.getD_eq_getElem?_getD] at this ⊢
      rw [List.getElem?_append_left (by omega)]
      exact this
    · obtain rfl : i = n := by omega
      rw [List.getD_eq_getElem?_getD, List.getElem?_append_right (by omega), hl]
      simpa using hx

/-- A struct that lies in cells: its fields, each one cell. -/
theorem trod_fields {t f : Nat} {fs : Array Field} {cs : List Value} {x : DataW H × List MemPlace} (ht : Try.prog.underlying t = some (.struct fs)) (hone : oneCellFields Try.prog fs = true)
    (hd : DataW.trod enc Try.prog W 0 (fun _ => true) true f t cs = some x) :
    cs.length = Try.prog.cellsOf t ∧ ∀ (j : Nat) (g : Field), fs[j]? = some g → ∀ v, cs[j]? = some v → ∃ n y, DataW.trod enc Try.prog W 0 (fun _ => true) true n g.type [v] = some y := by
  obtain ⟨xs, n, _, _, hlen, hxl, hf⟩ := DataW.trod_struct ht hd
  refine ⟨hlen, fun j g hg v hv => ?_⟩
  obtain ⟨ho, hk⟩ := hone_of hone j g hg
  have h1 := hf j g hg
  have hj : j < xs.length := by rw [hxl]; exact (Array.getElem?_eq_some_iff.1 hg).1
  rw [ho, hk, List.getElem?_eq_getElem hj] at h1
  have h2 : (cs.drop j).take 1 = [v] := by
    obtain ⟨hj', rfl⟩ := List.getElem?_eq_some_iff.1 hv
    rw [List.drop_eq_getElem_cons hj']
    rfl
  rw [h2] at h1
  exact ⟨n, _, h1⟩

theorem trod_i64 {T f : Nat} {k : IntKind} {v : Value} {x : DataW H × List MemPlace} (ht : Try.prog.underlying T = some (.int k)) (hd : DataW.trod enc Try.prog W 0 (fun _ => true) true f T [v] = some x) : ∃ z, v = .int k z := by
  obtain ⟨z, hz, _⟩ := DataW.trod_int ht hd
  simp at hz
  exact ⟨z, hz⟩
theorem trod_b {T f : Nat} {v : Value} {x : DataW H × List MemPlace} (ht : Try.prog.underlying T = some .bool) (hd : DataW.trod enc Try.prog W 0 (fun _ => true) true f T [v] = some x) : ∃ z, v = .bool z := by
  obtain ⟨z, hz, _⟩ := DataW.trod_bool ht hd
  simp at hz
  exact ⟨z, hz⟩
theorem spot_of_row {w : World} {base k : Nat} {a : Addr} (hk : 0 < k) (h : ∃ cs, w.cells? base (a.add (0 * k)) k = some cs) : a.spot = none := by
  obtain ⟨cs, hc⟩ := h
  obtain ⟨_, hl, hat⟩ := World.cells?_some hc
  have h0 := hat 0 hk
  rw [List.getElem?_eq_getElem (by omega)] at h0
  simpa [Addr.add] using World.cell?_spot h0

theorem trod_ops {f : Nat} {v : Value} {x : DataW H × List MemPlace} (hd : DataW.trod enc Try.prog W 0 (fun _ => true) true f 66 [v] = some x) :
    ∃ a n c, v = .slice a n c ∧ ∃ cs : List Nat, n = cs.length ∧ RdOps W a cs := by
  rcases open_slice Try.underlying66 hd with ⟨hcs, _⟩ | ⟨a, n, c, m, n', D, Pl, hcs, _, hl, hm, hmm, _, hi⟩
  · simp at hcs
    exact ⟨_, _, _, hcs, [], rfl, by simp, fun j hj => absurd hj (by simp)⟩
  · simp at hcs
    have hnm : n ≤ m := by rw [hmm]; split <;> omega
    obtain ⟨l, hl1, hl2⟩ := list_of_choice (α := Nat) 0 (p := fun j k => ∃ b off z0 z1 z2 z3 x cx b5, some a = some (⟨b, off, none⟩ : Addr) ∧
        W.cell? ⟨b, off + j * 6, none⟩ = some (.int .i64 z0) ∧ W.cell? ⟨b, off + j * 6 + 1, none⟩ = some (.int .i64 z1) ∧ W.cell? ⟨b, off + j * 6 + 2, none⟩ = some (.int .i64 z2) ∧ W.cell? ⟨b, off + j * 6 + 3, none⟩ = some (.int .i64 z3) ∧
        W.cell? ⟨b, off + j * 6 + 4, none⟩ = some (.slice x k cx) ∧ W.cell? ⟨b, off + j * 6 + 5, none⟩ = some (.bool b5) ∧ k ≤ 9223372036854775807) n (fun j hj => by
      obtain ⟨cs', hc, ht'⟩ := hi j (by omega)
      have h6 : Try.prog.cellsOf 69 = 6 := by kernel_rfl
      rw [h6] at hc
      obtain ⟨hcl, hf⟩ := trod_fields Try.underlying69 (by kernel_rfl) ht'
      obtain ⟨_, _, hat⟩ := World.cells?_some hc
      rw [h6] at hcl
      match cs', hcl with
      | [v0, v1, v2, v3, v4, v5], _ =>
        obtain ⟨n4, y4, h4⟩ := hf 4 _ rfl v4 rfl
        obtain ⟨x, k, cx, rfl, hk⟩ := trod_slice_len Try.underlying67 h4
        obtain ⟨n0, y0, h0⟩ := hf 0 _ rfl v0 rfl
        obtain ⟨n1, y1, h1⟩ := hf 1 _ rfl v1 rfl
        obtain ⟨n2, y2, h2⟩ := hf 2 _ rfl v2 rfl
        obtain ⟨n3, y3, h3⟩ := hf 3 _ rfl v3 rfl
        obtain ⟨n5, y5, h5⟩ := hf 5 _ rfl v5 rfl
        obtain ⟨z0, rfl⟩ := trod_i64 Try.underlying3 h0
        obtain ⟨z1, rfl⟩ := trod_i64 Try.underlying3 h1
        obtain ⟨z2, rfl⟩ := trod_i64 Try.underlying3 h2
        obtain ⟨z3, rfl⟩ := trod_i64 Try.underlying2 h3
        obtain ⟨b5, rfl⟩ := trod_b Try.underlying4 h5
        have hspot := spot_of_row (by rw [h6]; omega) ((hi 0 (by omega)).imp fun _ h => h.1)
        obtain ⟨b, off, spot⟩ := a
        subst hspot
        have e := fun q (hq : q < 6) => hat q hq
        simp only [Addr.add_lit] at e
        exact ⟨k, b, off, z0, z1, z2, z3, x, cx, b5, rfl, e 0 (by omega), e 1 (by omega), e 2 (by omega), e 3 (by omega), e 4 (by omega), e 5 (by omega), hk⟩)
    refine ⟨_, _, _, hcs, l, hl1.symm, by unfold maxLen at hm; omega, fun j hj => hl2 j (by omega)⟩

theorem open_plan {r : Reach} {b0 : Nat} {v : Value} {d : DataW H} {p : List MemPlace} (hv : Value.okWide Try.prog W r b0 47 v) (hd : DataW.Trod enc Try.prog W 0 (fun _ => true) true 47 v d p) :
    ∃ a n c, v = .slice a n c ∧ ∃ pl : List (List Nat), n = pl.length ∧ RdPlan W a pl := by
  obtain ⟨a, n, c, rfl⟩ := okWide_slice Try.underlying47 hv
  obtain ⟨f, hf⟩ := hd
  refine ⟨a, n, c, rfl, ?_⟩
  rcases open_slice1 Try.underlying47 (by kernel_rfl) hf with ⟨hcs, _⟩ | ⟨a', n', c', m, q, V, D, Pl, hcs, _, hl, hm, hmm, _, hi⟩
  · simp [Value.cells] at hcs
    obtain ⟨rfl, rfl, rfl⟩ := hcs
    exact ⟨[], rfl, by simp, fun j hj => absurd hj (by simp)⟩
  · simp [Value.cells] at hcs
    obtain ⟨rfl, rfl, rfl⟩ := hcs
    have hnm : n ≤ m := by rw [hmm]; split <;> omega
    obtain ⟨l, hl1, hl2⟩ := list_of_choice (α := List Nat) [] (p := fun i cs => ∃ b off r c, some a' = some (⟨b, off, none⟩ : Addr) ∧ W.cell? ⟨b, off + i, none⟩ = some (.slice r cs.length c) ∧ RdOps W r cs) n (fun i hin => by
      obtain ⟨hc, ht⟩ := hi i (by omega)
      obtain ⟨x, k, cx, hx, cs, hk, ho⟩ := trod_ops ht
      obtain ⟨b, off, spot⟩ := a'
      have hspot : spot = none := by simpa [Addr.add] using World.cell?_spot (hi 0 (by omega)).1
      subst hspot
      rw [Addr.add_lit, hx, hk] at hc
      exact ⟨cs, b, off, x, cx, rfl, hc, ho⟩)
    exact ⟨l, hl1.symm, by unfold maxLen at hm; omega, fun j hj => hl2 j (by omega)⟩

theorem open_turns {r : Reach} {b0 : Nat} {v : Value} {d : DataW H} {p : List MemPlace} (hv : Value.okWide Try.prog W r b0 48 v) (hd : DataW.Trod enc Try.prog W 0 (fun _ => true) true 48 v d p) :
    ∃ a n c, v = .slice a n c ∧ ∃ ts : List (Int × List Int), n = ts.length ∧ RdTurns W a ts ∧ (∀ i, i < ts.length → ∀ z ∈ (ts.getD i (0, [])).2, (Lit.int .i64 z).wf = true) ∧ n ≤ c := by
  obtain ⟨a, n, c, rfl⟩ := okWide_slice Try.underlying48 hv
  obtain ⟨f, hf⟩ := hd
  refine ⟨a, n, c, rfl, ?_⟩
  rcases open_slice Try.underlying48 hf with ⟨hcs, _⟩ | ⟨a', n', c', m, q, D, Pl, hcs, _, hl, hm, hmm, _, hi⟩
  · simp [Value.cells] at hcs
    obtain ⟨rfl, rfl, rfl⟩ := hcs
    exact ⟨[], rfl, ⟨by simp, fun j hj => absurd hj (by simp)⟩, fun j hj => absurd hj (by simp), Nat.le_refl _⟩
  · simp [Value.cells] at hcs
    obtain ⟨rfl, rfl, rfl⟩ := hcs
    have hnm : n ≤ m := by rw [hmm]; split <;> omega
    obtain ⟨l, hl1, hl2⟩ := list_of_choice (α := Int × List Int) (0, []) (p := fun i t => (∃ b off r c, some a' = some (⟨b, off, none⟩ : Addr) ∧ W.cell? ⟨b, off + i * 2, none⟩ = some (.int .i64 t.1) ∧
        W.cell? ⟨b, off + i * 2 + 1, none⟩ = some (.slice r t.2.length c) ∧ Rd .i64 W r t.2) ∧ ∀ z ∈ t.2, (Lit.int .i64 z).wf = true) n (fun i hin => by
      obtain ⟨cs', hc, ht'⟩ := hi i (by omega)
      have h2 : Try.prog.cellsOf 52 = 2 := by kernel_rfl
      rw [h2] at hc
      obtain ⟨hcl, hf⟩ := trod_fields Try.underlying52 (by kernel_rfl) ht'
      obtain ⟨_, _, hat⟩ := World.cells?_some hc
      rw [h2] at hcl
      match cs', hcl with
      | [v0, v1], _ =>
        obtain ⟨n0, y0, h0⟩ := hf 0 _ rfl v0 rfl
        obtain ⟨n1, y1, h1⟩ := hf 1 _ rfl v1 rfl
        obtain ⟨z, hz⟩ : ∃ z, v0 = .int .i64 z := by
          obtain ⟨z, hz, _⟩ := DataW.trod_int Try.underlying3 h0
          simp at hz
          exact ⟨z, hz⟩
        subst hz
        obtain ⟨x, k, cx, rfl, zs, hk, hrd, hwf⟩ := trod_rd Try.underlying23 Try.underlying3 (by kernel_rfl) h1
        have hspot := spot_of_row (by rw [h2]; omega) ((hi 0 (by omega)).imp fun _ h => h.1)
        obtain ⟨b, off, spot⟩ := a'
        subst hspot
        have e := fun q (hq : q < 2) => hat q hq
        simp only [Addr.add_lit] at e
        subst hk
        exact ⟨(z, zs), ⟨b, off, x, cx, rfl, e 0 (by omega), e 1 (by omega), hrd⟩, hwf⟩)
    exact ⟨l, hl1.symm, ⟨by unfold maxLen at hm; omega, fun j hj => (hl2 j (by omega)).1⟩, fun j hj => (hl2 j (by omega)).2, hl⟩
end
end Go.Proofs.Yteffilepolbgbaa
