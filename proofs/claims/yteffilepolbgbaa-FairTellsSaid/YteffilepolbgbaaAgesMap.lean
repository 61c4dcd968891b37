/- A map from int to int that the call itself has made, as the function that it is. -/
import Derived.Test.YteffilepolbgbaaOpen
import Derived.Maps.OwnOps
import Derived.Maps.Views
import Derived.StillTailTactics
namespace Go.Proofs.Yteffilepolbgbaa
open Go.RowKit Go.Maps Go.ChangeMaps
set_option linter.unusedVariables false

/-- Block b is a map of at most n entries that answers f. -/
def OwnM (w : World) (b n : Nat) (f : Int → Int) : Prop :=
  ∃ D : DataW Unit, w.ownsMap Try.prog 3 (plainElem Try.prog 3) b n D ∧ ∀ g : Int, (Lit.int .i64 g).wf = true → D.atKey (.int .i64 g) (.lit (.int .i64 0)) = .lit (.int .i64 (f g))

theorem law3 : Keyed Try.prog 3 := int_keyed Try.underlying3
theorem zero3 (w : World) : (zeroValue 3).run Try.prog w = .ok (.int .i64 0) w := by kernel_rfl

theorem OwnM.made (w : World) : OwnM (w.alloc (.map #[] 0)) w.heap.size 0 (fun _ => 0) := ⟨_, World.ownsMap_made w _ _ _, fun _ _ => rfl⟩
theorem OwnM.lt {w : World} {b n : Nat} {f : Int → Int} (h : OwnM w b n f) : b < w.heap.size := by
  obtain ⟨D, h, _⟩ := h; exact h.lt
theorem OwnM.kept {w w' : World} {b n : Nat} {f : Int → Int} {row : Option Nat} (h : OwnM w b n f) (hg : w.grownBy w' row) (hne : some b ≠ row) : OwnM w' b n f := by
  obtain ⟨D, h, hf⟩ := h; exact ⟨D, h.kept hg hne, hf⟩
theorem OwnM.below {w w' : World} {b n : Nat} {f : Int → Int} (h : OwnM w b n f) (hg : Below w.heap.size w w') : OwnM w' b n f :=
  h.kept (row := none) ⟨hg.os, hg.tape, hg.output, hg.size, fun k hk _ => hg.block k hk⟩ (by simp)
theorem OwnM.mono {w : World} {b n n' : Nat} {f : Int → Int} (h : OwnM w b n f) (hn : n ≤ n') : OwnM w b n' f := by
  obtain ⟨D, h, hf⟩ := h; exact ⟨D, h.mono hn, hf⟩
theorem OwnM.congr {w : World} {b n : Nat} {f f' : Int → Int} (h : OwnM w b n f) (he : ∀ g, (Lit.int .i64 g).wf = true → f g = f' g) : OwnM w b n f' := by
  obtain ⟨D, h, hf⟩ := h; exact ⟨D, h, fun g hg => by rw [hf g hg, he g hg]⟩

theorem OwnM.lookup {w : World} {b n : Nat} {f : Int → Int} (h : OwnM w b n f) {g : Int} (hg : (Lit.int .i64 g).wf = true) :
    (Instr.lookup 73 (.map (some b)) (.int .i64 g) false).run Try.prog w = .ok (.int .i64 (f g)) w := by
  obtain ⟨D, h, hf⟩ := h
  obtain ⟨c, hrun, hat, _⟩ := h.lookup_int law3 Try.underlying73 Try.underlying3 (zero3 _) (keyOf_int_mk Try.underlying3 hg)
  rw [hf g hg] at hat
  simp at hat
  rw [hrun, hat]

theorem OwnM.update {w : World} {b n : Nat} {f : Int → Int} (h : OwnM w b n f) (hn : n < maxLen) {g v : Int} (hg : (Lit.int .i64 g).wf = true) (hv : (Lit.int .i64 v).wf = true) :
    ∃ w', (Instr.mapUpdate 73 (.map (some b)) (.int .i64 g) (.int .i64 v)).run Try.prog w = .ok () w' ∧ OwnM w' b (n + 1) (fun x => if x = g then v else f x) ∧ w.grownBy w' (some b) := by
  obtain ⟨D, h, hf⟩ := h
  have hm : IsMap D := by obtain ⟨es, clock, _, _, _, e⟩ := h; exact ⟨_, e⟩
  obtain ⟨w', hrun, h1, h2⟩ := h.update law3 Try.underlying73 hn (keyOf_int_mk Try.underlying3 hg) (plainElem_int Try.underlying3 hv)
  refine ⟨w', hrun, ⟨_, h1, fun x hx => ?_⟩, h2⟩
  by_cases he : x = g
  · subst he
    rw [atKey_put_same hm (k := .int .i64 x) (show WideAt.IsKeyLit (.int .i64 x) from trivial)]
    simp
  · rw [atKey_put_other (by simpa using he), hf x hx]
    simp [he]

theorem OwnM.clear {w : World} {b n : Nat} {f : Int → Int} (h : OwnM w b n f) (ty : TypeId) :
    ∃ w', (Builtin.clear_ #[73] ty #[.map (some b)]).run Try.prog w = .ok (.tuple #[]) w' ∧ OwnM w' b 0 (fun _ => 0) ∧ w.grownBy w' (some b) := by
  obtain ⟨D, ⟨es, clock, hb, _⟩, hf⟩ := h
  refine ⟨setBlock w b (.map #[] clock), ?_, ⟨.map [], ⟨#[], clock, heap_setBlock_same hb _, ⟨by simp, MapKept.stamped_empty clock, by simp⟩, Nat.le_refl _, rfl⟩, fun _ _ => rfl⟩,
    ⟨rfl, rfl, rfl, by simp [setBlock], fun i _ hi => heap_setBlock_other hb _ (fun e => hi (by rw [e]))⟩⟩
  simp [Builtin.clear_, run_underlying Try.underlying73, MapKept.run_getObj_map hb, MapKept.run_setObj_map _ hb, Result.andThen, setBlock]

theorem wpList_clear_own {w : World} {ops : Array Oper} {rest : List Oper} {o : Oper} {a : Act} {Q : Exit → Act → World → Prop} (hgd : o.guard = none) (x : Operand)
    (ho : o.op = .call { callee := .builtin .clear, args := #[x], argTypes := #[73] }) (b n : Nat) (f : Int → Int) (hx : a.eval x = .map (some b)) (hown : OwnM w b n f)
    (h : ∀ w', OwnM w' b 0 (fun _ => 0) → w.grownBy w' (some b) → wpList Try.prog ops Q rest (a.put o.dst (.tuple #[])) w') : wpList Try.prog ops Q (o :: rest) a w := by
  refine wpList_plain hgd fun K hK => ?_
  obtain ⟨w', hrun, h1, h2⟩ := hown.clear o.type
  unfold Oper.wp execOp
  simp only [ho, resolve, invoke, builtin, Sem.run_bind, Sem.run_pure, Result.andThen_ok, List.map_toArray, List.map_cons, List.map_nil, hx, hrun]
  exact hK _ _ (h _ h1 h2)

theorem wpList_update_own {w : World} {ops : Array Oper} {rest : List Oper} {o : Oper} {a : Act} {Q : Exit → Act → World → Prop} (hgd : o.guard = none) (m x v : Operand)
    (hop : o.op = Op.mapUpdate 73 m x v) (b n : Nat) (f : Int → Int) (g z : Int) (hm : a.eval m = .map (some b)) (hown : OwnM w b n f) (hn : n < maxLen) (hx : a.eval x = .int .i64 g) (hv : a.eval v = .int .i64 z)
    (hg : (Lit.int .i64 g).wf = true) (hz : (Lit.int .i64 z).wf = true)
    (h : ∀ w', OwnM w' b (n + 1) (fun x => if x = g then z else f x) → w.grownBy w' (some b) → wpList Try.prog ops Q rest (a.put o.dst undef) w') : wpList Try.prog ops Q (o :: rest) a w := by
  refine wpList_plain hgd fun K hK => ?_
  obtain ⟨w', hrun, h1, h2⟩ := hown.update hn hg hz
  unfold Oper.wp
  simp [execOp, hop, hm, hx, hv, hrun, Result.andThen]
  exact hK _ _ (h _ h1 h2)

theorem wpStill_lookup {P : Program} {w : World} {ops : Array Oper} {rest : List Oper} {o : Oper} {a : Act} {Q : Act → Prop} (hgd : o.guard = none) (m x : Operand)
    (hop : o.op = Op.lookup 73 m x false) (b : Nat) (key v : Value) (hm : a.eval m = .map (some b)) (hx : a.eval x = key)
    (hrun : (Instr.lookup 73 (.map (some b)) key false).run P w = .ok v w) (h : wpStill P ops w Q rest (a.put o.dst v)) : wpStill P ops w Q (o :: rest) a := by
  unfold wpStill
  rw [if_pos (by simp [Region.wanted, hgd])]
  unfold Oper.still
  simp [execOp, hop, hm, hx, hrun, Oper.stillUpon, Result.andThen]
  exact h
end Go.Proofs.Yteffilepolbgbaa
