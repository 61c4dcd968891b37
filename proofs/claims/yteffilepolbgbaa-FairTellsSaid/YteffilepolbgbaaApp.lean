/- An append, onto a slice of the call's own, of whatever slice of one-cell elements, nil too. -/
import Derived.Test.YteffilepolbgbaaBase
import Derived.Laws.AppendOwnNone
namespace Go.Proofs.Yteffilepolbgbaa
open Go.RowKit
set_option linter.unusedVariables false

theorem run_append_none {P : Program} (w : World) (base : Nat) (t ty e : TypeId) (i : TypeInfo) (size : Nat) (ht : P.underlying t = some (.slice e)) (hi : P.info? e = some i)
    (v : Value) (n c : Nat) (xs : List Value) (hown : w.ownsRow base e size v n xs) :
    (Builtin.append_ #[t, t] ty #[v, .slice none 0 c]).run P w = .ok v w := by
  rcases hown.2 with ⟨rfl, rfl⟩ | ⟨g, cap, cur, rfl, _, _, hnc, _⟩
  · simp [Builtin.append_, run_underlying ht, sizeOf, typeInfo, hi, Builtin.lenOf, Builtin.firstCells]
  · simp [Builtin.append_, run_underlying ht, sizeOf, typeInfo, hi, Builtin.lenOf, Builtin.firstCells, hnc, storeCells]

theorem wpList_append_src {P : Program} {w : World} {ops : Array Oper} {rest : List Oper} {o : Oper} {a : Act} {Q : Exit → Act → World → Prop} (hgd : o.guard = none) (s x : Operand) (t : TypeId)
    (ho : o.op = .call { callee := .builtin .append, args := #[s, x], argTypes := #[t, t] })
    (base : Nat) (e : TypeId) (i : TypeInfo) (z : Value) (bytes : Nat) (ht : P.underlying t = some (.slice e)) (hi : P.info? e = some i) (hz : i.zero = some z)
    (hsize : i.size = 1) (hby : i.bytes = bytes) (hzs : z.cells.size = 1)
    (v : Value) (n : Nat) (xs : List Value) (hs : a.eval s = v) (hown : w.ownsRow base e 1 v n xs)
    (ao : Option Addr) (m c : Nat) (news : List Value) (hx : a.eval x = .slice ao m c) (hl : news.length = m) (hnews : 0 < m → ∃ b off, ao = some ⟨b, off, none⟩ ∧ ∀ j u, news[j]? = some u → w.cell? ⟨b, off + j, none⟩ = some u) (h1 : ∀ u ∈ news, u.oneCell' = true)
    (h63 : n + m ≤ maxLen) (hbytes : (n + m) * bytes ≤ 140737488355328) (hbase : base ≤ w.heap.size)
    (h : ∀ v' w', w'.ownsRow base e 1 v' (n + m) (xs ++ news) → w.grownBy w' v.ownBlock → (v' = .slice none 0 0 → v = .slice none 0 0) → wpList P ops Q rest (a.put o.dst v') w') : wpList P ops Q (o :: rest) a w := by
  refine wpList_plain hgd fun K hK => ?_
  have hrun : ∃ v' w', (Builtin.append_ #[t, t] o.type #[v, .slice ao m c]).run P w = .ok v' w' ∧ w'.ownsRow base e 1 v' (n + m) (xs ++ news) ∧ w.grownBy w' v.ownBlock ∧ (v' = .slice none 0 0 → v = .slice none 0 0) := by
    cases ao with
    | none =>
      have hm : m = 0 := by
        rcases Nat.eq_zero_or_pos m with h | h
        · exact h
        · obtain ⟨_, _, h', _⟩ := hnews h; cases h'
      subst hm
      obtain rfl : news = [] := List.eq_nil_of_length_eq_zero hl
      exact ⟨v, w, run_append_none w base t o.type e i 1 ht hi v n c xs hown, by simpa using hown, World.grownBy.refl _ _, id⟩
    | some ad =>
      obtain ⟨v', w', h1', h2', h3', h4'⟩ := run_append_own (P := P) w base t o.type e i z 1 bytes ht hi hz hsize hby hzs (by decide) v n xs hown ad m c news (by simpa using hl) (by
        intro j u hu
        have hm : 0 < m := by
          have := (List.getElem?_eq_some_iff.1 hu).1
          omega
        obtain ⟨b, off, hab, hc⟩ := hnews hm
        cases hab
        rw [Addr.add_lit]
        exact hc j u hu) h1 h63 hbytes hbase
      exact ⟨v', w', h1', h2', h3', fun e => (h4'.1 e).1⟩
  obtain ⟨v', w', hr, h2, h3, h4⟩ := hrun
  unfold Oper.wp execOp
  simp only [ho, resolve, invoke, builtin, Sem.run_bind, Sem.run_pure, Result.andThen_ok, List.map_toArray, List.map_cons, List.map_nil, hs, hx, hr]
  exact hK _ _ (h v' w' h2 h3 h4)

/-- An append of one cell onto a slice without room (nil, or empty): it lies in a new block. -/
theorem wpList_append_first {P : Program} {w : World} {ops : Array Oper} {rest : List Oper} {o : Oper} {a : Act} {Q : Exit → Act → World → Prop} (hgd : o.guard = none) (s x : Operand) (t : TypeId)
    (ho : o.op = .call { callee := .builtin .append, args := #[s, x], argTypes := #[t, t] })
    (e : TypeId) (i : TypeInfo) (z : Value) (bytes : Nat) (ht : P.underlying t = some (.slice e)) (hi : P.info? e = some i) (hz : i.zero = some z)
    (hsize : i.size = 1) (hby : i.bytes = bytes) (hzs : z.cells.size = 1) (hb : bytes ≤ 1000)
    (sa : Option Addr) (hs : a.eval s = .slice sa 0 0) (ad : Addr) (c : Nat) (u : Value) (hx : a.eval x = .slice (some ad) 1 c) (hu : w.cell? ad = some u) (h1 : u.oneCell' = true)
    (h : ∀ cap w', w'.ownsRow w.heap.size e 1 (.slice (some ⟨w.heap.size, 0, none⟩) 1 cap) 1 [u] → w.grownBy w' none → wpList P ops Q rest (a.put o.dst (.slice (some ⟨w.heap.size, 0, none⟩) 1 cap)) w') : wpList P ops Q (o :: rest) a w := by
  refine wpList_plain hgd fun K hK => ?_
  have hnews : ∀ j v, [u][j]? = some v → w.cell? (ad.add j) = some v := by
    intro j v hv
    match j, hv with
    | 0, hv =>
      simp at hv
      subst hv
      obtain ⟨b, off, spot⟩ := ad
      have hsp : spot = none := by simpa using World.cell?_spot hu
      subst hsp
      rw [Addr.add_lit]; exact hu
  have hge := grownCap_ge w 1 0 e
  have hcm : grownCap w 1 0 e ≤ maxLen := grownCap_le_maxLen w 1 0 e (by unfold maxLen; omega)
  have fin : ∀ cap, 1 ≤ cap → cap ≤ maxLen → (w.drew.alloc (.cells (#[u] ++ Builtin.zeroCells z.cells (cap - 1)) e)).ownsRow w.heap.size e 1 (.slice (some ⟨w.heap.size, 0, none⟩) 1 cap) 1 [u] ∧
      w.grownBy (w.drew.alloc (.cells (#[u] ++ Builtin.zeroCells z.cells (cap - 1)) e)) none := by
    intro cap h1 h2
    refine ⟨⟨rfl, .inr ⟨w.heap.size, _, _, rfl, Nat.le_refl _, heap_alloc_new w.drew _, h1, h2, ?_, ?_⟩⟩, ⟨rfl, rfl, rfl, by simp, fun k hk _ => Below.heap_alloc w.drew _ k hk⟩⟩
    · simp [size_zeroCells, hzs]; omega
    · simp
  have hrun : ∃ cap w', (Builtin.append_ #[t, t] o.type #[.slice sa 0 0, .slice (some ad) 1 c]).run P w = .ok (.slice (some ⟨w.heap.size, 0, none⟩) 1 cap) w' ∧ w'.ownsRow w.heap.size e 1 (.slice (some ⟨w.heap.size, 0, none⟩) 1 cap) 1 [u] ∧ w.grownBy w' none := by
    cases sa with
    | none =>
      have hr := run_append_nil (P := P) w t o.type e i z ht hi hz ad 1 c [u] (by simp [hsize]) hnews (by omega) (by omega) (by omega)
      exact ⟨_, _, hr, by simpa using fin _ hge hcm⟩
    | some sa =>
      have hr := run_append_grow (P := P) w t o.type e i z ht hi hz sa 0 0 [] (by simp) (by intro j v hv; simp at hv) ad 1 c [u] (by simp [hsize]) hnews (by omega) (by omega) (growslice_fits (by omega) (by omega))
      exact ⟨_, _, hr, by simpa using fin _ hge hcm⟩
  obtain ⟨cap, w', hr, h2, h3⟩ := hrun
  unfold Oper.wp execOp
  simp only [ho, resolve, invoke, builtin, Sem.run_bind, Sem.run_pure, Result.andThen_ok, List.map_toArray, List.map_cons, List.map_nil, hs, hx, hr]
  exact hK _ _ (h cap w' h2 h3)

theorem Rd.src {k : IntKind} {w : World} {ao : Option Addr} {zs : List Int} (h : Rd k w ao zs) {m : Nat} (hm : m = zs.length) :
    0 < m → ∃ b off, ao = some ⟨b, off, none⟩ ∧ ∀ j u, (zs.map (Value.int k))[j]? = some u → w.cell? ⟨b, off + j, none⟩ = some u := by
  intro h0
  obtain ⟨b, off, e, hc⟩ := h.2 (by omega)
  refine ⟨b, off, e, fun j u hu => ?_⟩
  rw [List.getElem?_map] at hu
  have hj : j < zs.length := by
    rcases Nat.lt_or_ge j zs.length with h | h
    · exact h
    · rw [List.getElem?_eq_none h] at hu; cases hu
  rw [hc j hj]
  rw [List.getElem?_eq_getElem hj] at hu
  simp at hu
  rw [← hu]
  simp [List.getD, hj]
end Go.Proofs.Yteffilepolbgbaa
