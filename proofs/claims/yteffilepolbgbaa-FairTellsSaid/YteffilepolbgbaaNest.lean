/- Slices of slices: an append of one cell, told where it lies; rows that read as lists; handoffref02.Same of two lists that are not one. -/
import Derived.Test.YteffilepolbgbaaApp
import Derived.Test.YteffilepolbgbaaTurned
namespace Go.Proofs.Yteffilepolbgbaa
open Go.RowKit
set_option linter.unusedVariables false

/-- An append of one cell onto a slice of the call's own: the row stays where it was, or lies in a new block. -/
theorem wpList_append_one {P : Program} {w : World} {ops : Array Oper} {rest : List Oper} {o : Oper} {a : Act} {Q : Exit → Act → World → Prop} (hgd : o.guard = none) (s x : Operand) (t : TypeId)
    (ho : o.op = .call { callee := .builtin .append, args := #[s, x], argTypes := #[t, t] })
    (base : Nat) (e : TypeId) (i : TypeInfo) (z : Value) (bytes : Nat) (ht : P.underlying t = some (.slice e)) (hi : P.info? e = some i) (hz : i.zero = some z)
    (hsize : i.size = 1) (hby : i.bytes = bytes) (hzs : z.cells.size = 1)
    (v : Value) (n : Nat) (xs : List Value) (hs : a.eval s = v) (hown : w.ownsRow base e 1 v n xs)
    (ad : Addr) (c : Nat) (u : Value) (hx : a.eval x = .slice (some ad) 1 c) (hu : w.cell? ad = some u) (h1 : u.oneCell' = true)
    (h63 : n + 1 ≤ maxLen) (hbytes : (n + 1) * bytes ≤ 140737488355328) (hbase : base ≤ w.heap.size)
    (h : ∀ g cap w', w'.ownsRow base e 1 (.slice (some ⟨g, 0, none⟩) (n + 1) cap) (n + 1) (xs ++ [u]) → w.grownBy w' (some g) → ((v.ownBlock = some g ∧ ∀ a' n' c', v = .slice a' n' c' → n' + 1 ≤ c') ∨ g = w.heap.size) → wpList P ops Q rest (a.put o.dst (.slice (some ⟨g, 0, none⟩) (n + 1) cap)) w') : wpList P ops Q (o :: rest) a w := by
  refine wpList_plain hgd fun K hK => ?_
  have hnews : ∀ j v, [u][j]? = some v → w.cell? (ad.add j) = some v := by
    intro j v hv
    match j, hv with
    | 0, hv =>
      simp at hv
      subst hv
      obtain ⟨b, off, spot⟩ := ad
      have hsp : spot = none := by simpa using World.cell?_spot hu
      subst hsp
      rw [Addr.add_lit]; exact hu
  have hsm : n + 1 ≤ 9223372036854775807 := by simp only [maxLen] at h63; omega
  have hxl : xs.length = n := by have := hown.1; omega
  have hge : ∀ old, n + 1 ≤ grownCap w (n + 1) old e := fun old => grownCap_ge w (n + 1) old e
  have hcm : ∀ old, grownCap w (n + 1) old e ≤ maxLen := fun old => grownCap_le_maxLen w (n + 1) old e h63
  have fin : ∀ cap, n + 1 ≤ cap → cap ≤ maxLen → (w.drew.alloc (.cells (xs.toArray ++ #[u] ++ Builtin.zeroCells z.cells (cap - (n + 1))) e)).ownsRow base e 1 (.slice (some ⟨w.heap.size, 0, none⟩) (n + 1) cap) (n + 1) (xs ++ [u]) ∧
      w.grownBy (w.drew.alloc (.cells (xs.toArray ++ #[u] ++ Builtin.zeroCells z.cells (cap - (n + 1))) e)) (some w.heap.size) := by
    intro cap h1 h2
    refine ⟨⟨by simp [hxl], .inr ⟨w.heap.size, _, _, rfl, hbase, heap_alloc_new w.drew _, h1, h2, ?_, ?_⟩⟩, ⟨rfl, rfl, rfl, by simp, fun k hk _ => Below.heap_alloc w.drew _ k hk⟩⟩
    · simp [size_zeroCells, hzs, hxl]; omega
    · have : (xs.toArray ++ #[u] ++ Builtin.zeroCells z.cells (cap - (n + 1))).toList = (xs ++ [u]) ++ (Builtin.zeroCells z.cells (cap - (n + 1))).toList := by simp
      rw [this]
      exact List.take_left' (by simp [hxl])
  have hrun : ∃ g cap w', (Builtin.append_ #[t, t] o.type #[v, .slice (some ad) 1 c]).run P w = .ok (.slice (some ⟨g, 0, none⟩) (n + 1) cap) w' ∧ w'.ownsRow base e 1 (.slice (some ⟨g, 0, none⟩) (n + 1) cap) (n + 1) (xs ++ [u]) ∧ w.grownBy w' (some g) ∧ ((v.ownBlock = some g ∧ ∀ a' n' c', v = .slice a' n' c' → n' + 1 ≤ c') ∨ g = w.heap.size) := by
    rcases hown.2 with ⟨rfl, rfl⟩ | ⟨g, cap, cur, rfl, hbg, hg, hnc, hcc, hcs, htake⟩
    · have hx0 : xs = [] := List.eq_nil_of_length_eq_zero hxl
      subst hx0
      have hr := run_append_nil (P := P) w t o.type e i z ht hi hz ad 1 c [u] (by simp [hsize]) hnews (by omega) (by omega) (by omega)
      have hf := fin _ (hge 0) (hcm 0)
      simp only [Nat.zero_add] at hf ⊢
      exact ⟨_, _, _, hr, by simpa using hf.1, by simpa using hf.2, .inr rfl⟩
    · by_cases hroom : n + 1 ≤ cap
      · have hfit : n * i.size + [u].length ≤ cur.size := by rw [hsize, hcs]; simp; omega
        have hr := run_append_room (P := P) w t o.type e i ht hi g n cap cur hg ad 1 c [u] (by simp [hsize]) hnews (by intro q hq; simp at hq; subst hq; exact h1) hroom hfit
        refine ⟨g, cap, _, hr, ⟨by simp [hxl], .inr ⟨g, cap, _, rfl, hbg, setRow_heap w g cur _ e _ hg, hroom, hcc, ?_, ?_⟩⟩, ⟨rfl, rfl, rfl, by simp, fun k _ hk => setRow_other w g k _ (fun e => hk (by rw [e]))⟩, .inl ⟨rfl, fun a' n' c' e => by simp at e; omega⟩⟩
        · rw [hsize, Nat.mul_one]
          simp
          omega
        · simp only [hsize, Nat.mul_one] at htake ⊢
          rw [htake]
          exact List.take_left' (by simp [hxl])
      · have holds : ∀ j u, xs[j]? = some u → w.cell? ((⟨g, 0, none⟩ : Addr).add j) = some u := hown.cells (g := g) rfl
        have hr := run_append_grow (P := P) w t o.type e i z ht hi hz ⟨g, 0, none⟩ n cap xs (by rw [hsize]; omega) holds ad 1 c [u] (by simp [hsize]) hnews (by omega) (by omega) (growslice_fits (by omega) (by rw [hby]; exact hbytes))
        have hf := fin _ (hge cap) (hcm cap)
        exact ⟨_, _, _, hr, hf.1, hf.2, .inr rfl⟩
  obtain ⟨g, cap, w', hr, h2, h3, h4⟩ := hrun
  unfold Oper.wp execOp
  simp only [ho, resolve, invoke, builtin, Sem.run_bind, Sem.run_pure, Result.andThen_ok, List.map_toArray, List.map_cons, List.map_nil, hs, hx, hr]
  exact hK _ _ (h g cap w' h2 h3 h4)

/-- A slice whose elements are these values. -/
def RdV (w : World) (ao : Option Addr) (vs : List Value) : Prop :=
  0 < vs.length → ∃ b off, ao = some ⟨b, off, none⟩ ∧ ∀ j, j < vs.length → w.cell? ⟨b, off + j, none⟩ = some (vs.getD j undef)

/-- Each of these values is a slice that reads as the list at its place, in a block that is not g. -/
def RowsRd (w : World) (g : Nat) (vs : List Value) (ls : List (List Int)) : Prop :=
  vs.length = ls.length ∧ ∀ i, i < ls.length → ∃ ao cap, vs.getD i undef = .slice ao (ls.getD i []).length cap ∧ Rd .i64 w ao (ls.getD i []) ∧ ∀ b off, ao = some ⟨b, off, none⟩ → b ≠ g ∧ b < w.heap.size

theorem RdV.below {w w' : World} {B : Nat} {ao : Option Addr} {vs : List Value} (h : RdV w ao vs) (hb : Below B w w') (hB : w.heap.size ≤ B) : RdV w' ao vs := by
  intro h0
  obtain ⟨b, off, e, hc⟩ := h h0
  refine ⟨b, off, e, fun j hj => ?_⟩
  have hv := hc j hj
  rw [hb.cell (by have := World.block_lt_of_cell? w _ hv; omega)]
  exact hv

theorem Rd.grown {k : IntKind} {w w' : World} {ao : Option Addr} {zs : List Int} {g : Nat} (h : Rd k w ao zs) (hg : w.grownBy w' (some g)) (hne : ∀ b off, ao = some ⟨b, off, none⟩ → b ≠ g) : Rd k w' ao zs := by
  refine ⟨h.1, fun h0 => ?_⟩
  obtain ⟨b, off, e, hc⟩ := h.2 h0
  exact ⟨b, off, e, fun j hj => hg.cell (hc j hj) (by simpa using hne b off e)⟩

theorem RowsRd.below {w w' : World} {B g : Nat} {vs : List Value} {ls : List (List Int)} (h : RowsRd w g vs ls) (hb : Below B w w') (hB : w.heap.size ≤ B) : RowsRd w' g vs ls :=
  ⟨h.1, fun i hi => let ⟨ao, cap, h1, h2, h3⟩ := h.2 i hi; ⟨ao, cap, h1, h2.below hb hB, fun b off e => ⟨(h3 b off e).1, Nat.lt_of_lt_of_le (h3 b off e).2 hb.size⟩⟩⟩

theorem getD_snocV (vs : List Value) (v : Value) (i : Nat) : (vs ++ [v]).getD i undef = if i < vs.length then vs.getD i undef else if i = vs.length then v else undef := by
  simp only [List.getD_eq_getElem?_getD, List.getElem?_append]
  split
  · rfl
  · split
    · rename_i h1 h2; simp [h2]
    · obtain ⟨j, hj⟩ : ∃ j, i - vs.length = j + 1 := ⟨i - vs.length - 1, by omega⟩
      simp [hj]
theorem getD_snocL (vs : List (List Int)) (v : List Int) (i : Nat) : (vs ++ [v]).getD i [] = if i < vs.length then vs.getD i [] else if i = vs.length then v else [] := by
  simp only [List.getD_eq_getElem?_getD, List.getElem?_append]
  split
  · rfl
  · split
    · rename_i h1 h2; simp [h2]
    · obtain ⟨j, hj⟩ : ∃ j, i - vs.length = j + 1 := ⟨i - vs.length - 1, by omega⟩
      simp [hj]

/-- One row more behind all, the outer row in block g before and in g' now. -/
theorem RowsRd.snoc {w w' : World} {g g' : Nat} {vs : List Value} {ls : List (List Int)} {ao : Option Addr} {cap : Nat} {l : List Int} (h : RowsRd w g vs ls) (hr : Rd .i64 w ao l)
    (hne : ∀ b off, ao = some ⟨b, off, none⟩ → b ≠ g ∧ b < w.heap.size) (hg : w.grownBy w' (some g')) (hgg : g' = g ∨ g' = w.heap.size) : RowsRd w' g' (vs ++ [.slice ao l.length cap]) (ls ++ [l]) := by
  have hsz := hg.size
  refine ⟨by simp [h.1], fun i hi => ?_⟩
  rw [List.length_append] at hi
  simp at hi
  rw [getD_snocV, getD_snocL, h.1]
  by_cases hil : i < ls.length
  · rw [if_pos hil, if_pos hil]
    obtain ⟨a, c, h1, h2, h3⟩ := h.2 i hil
    refine ⟨a, c, h1, h2.grown hg (fun b off e => by have := h3 b off e; omega), fun b off e => ?_⟩
    obtain ⟨h4, h5⟩ := h3 b off e
    exact ⟨by omega, by omega⟩
  · rw [if_neg hil, if_neg hil, if_pos (by omega), if_pos (by omega)]
    refine ⟨ao, cap, rfl, hr.grown hg (fun b off e => by have := hne b off e; omega), fun b off e => ?_⟩
    obtain ⟨h4, h5⟩ := hne b off e
    exact ⟨by omega, by omega⟩

theorem ext_getD' {a b : List Int} (hl : a.length = b.length) (h : ∀ i, i < a.length → a.getD i 0 = b.getD i 0) : a = b := by
  apply List.ext_getElem hl
  intro i h1 h2
  have := h i h1
  simpa [List.getD, h1, h2] using this

set_option maxHeartbeats 400000 in
theorem same_no (zs ys : List Int) (n : Nat) (hn : n = zs.length) (hn2 : n = ys.length) (a b : Option Addr) (ca cb : Nat) (w : World) (h1 : Rd .i64 w a zs) (h2 : Rd .i64 w b ys) (hne : zs ≠ ys) :
    Calls Try.prog 24 #[.slice a n ca, .slice b n cb] w fun e w' => e = .returned (.bool false) ∧ ∃ q, w' = w.drewN q := by
  have hl := h1.len
  rw [← hn] at hl
  have Hn := Lib.hid hn; clear hn
  have Hn2 := Lib.hid hn2; clear hn2
  have H1 := Lib.hid h1; clear h1
  have H2 := Lib.hid h2; clear h2
  have HNE := Lib.hid hne; clear hne
  go_enter Try.func24, Try.ntmps24
  go_wp2
  go_loopw [5, 13] (fun _ i wr => ∃ k q : Nat, k ≤ n ∧ i = .int .i64 k ∧ wr = w.drewN q ∧ Hid (∀ j, j < k → zs.getD j 0 = ys.getD j 0)) (fun _ i _ => n - (intOf i).toNat)
  case atStart => exact ⟨0, 0, Nat.zero_le _, rfl, rfl, (fun j h => by omega : ∀ j, j < 0 → zs.getD j 0 = ys.getD j 0)⟩
  case round =>
    obtain ⟨k, q, hk, rfl, rfl, HK⟩ := hrel
    by_cases hlt : k < n
    · obtain ⟨b1, o1, rfl, c1⟩ := H1.out.at k (by rw [← Hn.out]; exact hlt)
      obtain ⟨b2, o2, rfl, c2⟩ := H2.out.at k (by rw [← Hn2.out]; exact hlt)
      obtain ⟨x, hx⟩ := named (zs.getD k 0)
      obtain ⟨y, hy⟩ := named (ys.getD k 0)
      rw [← hx.out] at c1
      rw [← hy.out] at c2
      by_cases hxy : x = y
      · subst hxy
        have HK' : Hid (∀ j, j < k + 1 → zs.getD j 0 = ys.getD j 0) := by
          intro j hj
          by_cases hjk : j = k
          · subst hjk; rw [← hx.out, ← hy.out]
          · exact HK.out j (by omega)
        go_wp2
        go_quiet (fail)
        go_wp2
        go_roundw
        case rel => exact ⟨k + 1, _, by omega, by go_num, rfl, HK'⟩
        case measure => simp [intOf]; omega
      · have hb : (x != y) = true := by simpa using hxy
        go_wp2
        go_quiet (fail)
        go_wp2
        go_ret
        exact ⟨rfl, _, World.drewN_drewN _ _ _⟩
    · exact absurd (ext_getD' (by rw [← Hn.out, ← Hn2.out]) fun i hi => HK.out i (by rw [← Hn.out] at hi; omega)) HNE.out
end Go.Proofs.Yteffilepolbgbaa
