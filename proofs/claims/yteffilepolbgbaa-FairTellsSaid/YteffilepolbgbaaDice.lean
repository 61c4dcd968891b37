/- Package dice: each method answers as a plain function says, and writes its own count alone. -/
import Derived.Test.YteffilepolbgbaaBase
import Derived.Laws.CopyOwn
namespace Go.Proofs.Yteffilepolbgbaa
open Go.RowKit
set_option linter.unusedVariables false

/-- Block b alone may have been written; no block is new. -/
structure Touch (b : Nat) (w w' : World) : Prop where
  os : w'.os = w.os
  tape : w'.tape = w.tape
  output : w'.output = w.output
  size : w'.heap.size = w.heap.size
  block : ∀ k, k ≠ b → w'.heap[k]? = w.heap[k]?

theorem Touch.below {b B : Nat} {w w' : World} (h : Touch b w w') (hB : B ≤ b) : Below B w w' :=
  ⟨h.os, h.tape, h.output, by rw [h.size]; exact Nat.le_refl _, fun k hk => h.block k (by omega)⟩
theorem Touch.trans {b : Nat} {u v w : World} (h : Touch b u v) (k : Touch b v w) : Touch b u w :=
  ⟨k.os.trans h.os, k.tape.trans h.tape, k.output.trans h.output, k.size.trans h.size, fun i hi => (k.block i hi).trans (h.block i hi)⟩
theorem touch_drewN (b : Nat) (w : World) (q : Nat) : Touch b w (w.drewN q) := ⟨rfl, rfl, rfl, rfl, fun _ _ => rfl⟩
theorem touch_set (b i : Nat) (w : World) (v : Value) (q : Nat) : Touch b w ((w.setCell ⟨b, i, none⟩ v).drewN q) :=
  ⟨rfl, rfl, rfl, by simp [World.setCell], fun k hk => Below.heap_setCell _ _ _ _ (by simpa using hk)⟩

/-- A Dice in block b, its list in block g, k of them drawn. -/
structure DiceAt (w : World) (b g : Nat) (l : List Int) (k : Nat) : Prop where
  blk : w.heap[b]? = some (.cells #[.slice (some ⟨g, 0, none⟩) l.length l.length, .int .i64 k] 64 (0, 0))
  row : ∀ j, j < l.length → w.cell? ⟨g, j, none⟩ = some (.int .u16 (l.getD j 0))
  ne : g ≠ b
  hk : k ≤ l.length
  small : l.length ≤ 300
  rng : ∀ j, 0 ≤ l.getD j 0 ∧ l.getD j 0 < 65536

theorem DiceAt.c0 {w : World} {b g : Nat} {l : List Int} {k : Nat} (h : DiceAt w b g l k) : w.cell? ⟨b, 0, none⟩ = some (.slice (some ⟨g, 0, none⟩) l.length l.length) := by
  rw [cell_of_row w b 0 _ _ _ h.blk]; rfl
theorem DiceAt.c1 {w : World} {b g : Nat} {l : List Int} {k : Nat} (h : DiceAt w b g l k) : w.cell? ⟨b, 1, none⟩ = some (.int .i64 k) := by
  rw [cell_of_row w b 1 _ _ _ h.blk]; rfl
theorem DiceAt.f1 {w : World} {b g : Nat} {l : List Int} {k : Nat} (h : DiceAt w b g l k) : w.frozen? ⟨b, 1, none⟩ = false :=
  frozen_of_row w b 1 _ _ h.blk
theorem DiceAt.lt {w : World} {b g : Nat} {l : List Int} {k : Nat} (h : DiceAt w b g l k) : b < w.heap.size := (Array.getElem?_eq_some_iff.1 h.blk).1

theorem DiceAt.drewN {w : World} {b g : Nat} {l : List Int} {k : Nat} (h : DiceAt w b g l k) (q : Nat) : DiceAt (w.drewN q) b g l k :=
  ⟨h.blk, h.row, h.ne, h.hk, h.small, h.rng⟩
theorem DiceAt.set {w : World} {b g : Nat} {l : List Int} {k k' : Nat} (h : DiceAt w b g l k) (hk : k' ≤ l.length) (q : Nat) : DiceAt ((w.setCell ⟨b, 1, none⟩ (.int .i64 k')).drewN q) b g l k' := by
  refine ⟨?_, fun j hj => ?_, h.ne, hk, h.small, h.rng⟩
  · have := heap_setCell_same w b 1 _ _ (.int .i64 (k' : Int)) h.blk
    simpa using this
  · have := h.row j hj
    rw [World.cell?_drewN, World.cell?_setCell_other _ _ _ _ (by intro e; have := h.ne; simp at e)]
    exact this
/-- Another Dice's step. -/
theorem DiceAt.other {w w' : World} {b b' g : Nat} {l : List Int} {k : Nat} (h : DiceAt w b g l k) (ht : Touch b' w w') (h1 : b ≠ b') (h2 : g ≠ b') : DiceAt w' b g l k :=
  ⟨(ht.block b h1).trans h.blk, fun j hj => (World.cell?_of_block (w := w) (ht.block g h2)).trans (h.row j hj), h.ne, h.hk, h.small, h.rng⟩
/-- New blocks, or writes past it, leave it. -/
theorem DiceAt.below {w w' : World} {B b g : Nat} {l : List Int} {k : Nat} (h : DiceAt w b g l k) (hb : Below B w w') (h1 : b < B) (h2 : g < B) : DiceAt w' b g l k :=
  ⟨(hb.block b h1).trans h.blk, fun j hj => (hb.cell (p := ⟨g, j, none⟩) h2).trans (h.row j hj), h.ne, h.hk, h.small, h.rng⟩

def drawV (l : List Int) (k : Nat) (n : Int) : Int := if n < 1 ∨ l.length ≤ k then 0 else l.getD k 0 % n
def drawK (l : List Int) (k : Nat) (n : Int) : Nat := if n < 1 ∨ l.length ≤ k then k else k + 1
theorem drawK_le (l : List Int) (k : Nat) (n : Int) (h : k ≤ l.length) : drawK l k n ≤ l.length := by unfold drawK; split <;> omega

set_option maxHeartbeats 400000 in
theorem draw_low (b : Nat) (n : Int) (w : World) (hn : n < 1) :
    Calls Try.prog 17 #[.pointer (some ⟨b, 0, none⟩), .int .i64 n] w fun e w' => e = .returned (.int .i64 0) ∧ ∃ q, w' = w.drewN q := by
  go_enter Try.func17, Try.ntmps17
  go_wp2
  go_quiet (fail)
  go_wp2
  go_ret
  exact ⟨rfl, _, rfl⟩

set_option maxHeartbeats 400000 in
theorem draw_none (b : Nat) (g : Nat) (len k : Nat) (n : Int) (w : World) (hn : 1 ≤ n) (_hm : len ≤ 300) (_hk : k ≤ len) (hk' : len ≤ k)
   (h0 : w.cell? ⟨b, 0, none⟩ = some (.slice (some ⟨g, 0, none⟩) len len)) (h1 : w.cell? ⟨b, 1, none⟩ = some (.int .i64 k)) :
    Calls Try.prog 17 #[.pointer (some ⟨b, 0, none⟩), .int .i64 n] w fun e w' => e = .returned (.int .i64 0) ∧ ∃ q, w' = w.drewN q := by
  go_enter Try.func17, Try.ntmps17
  go_wp2
  go_quiet (fail)
  go_wp2
  go_ret
  exact ⟨rfl, _, rfl⟩

set_option maxHeartbeats 400000 in
theorem draw_some (b : Nat) (g : Nat) (len k : Nat) (n x : Int) (w : World) (hn : 1 ≤ n) (_hm : len ≤ 300) (hk : k < len)
   (h0 : w.cell? ⟨b, 0, none⟩ = some (.slice (some ⟨g, 0, none⟩) len len)) (h1 : w.cell? ⟨b, 1, none⟩ = some (.int .i64 k)) (f1 : w.frozen? ⟨b, 1, none⟩ = false)
   (hx : w.cell? ⟨g, k, none⟩ = some (.int .u16 x)) (hx0 : 0 ≤ x) (hx1 : x < 65536) :
    Calls Try.prog 17 #[.pointer (some ⟨b, 0, none⟩), .int .i64 n] w fun e w' => e = .returned (.int .i64 (x % n)) ∧ ∃ q, w' = (w.setCell ⟨b, 1, none⟩ (.int .i64 (k + 1 : Nat))).drewN q := by
  have hd : decide ((len : Int) ≤ (k : Int)) = false := by simp; omega
  go_enter Try.func17, Try.ntmps17
  go_wp2
  go_quiet (fail)
  go_wp2
  go_quiet (fail)
  go_wp2
  go_ret
  exact ⟨rfl, _, rfl⟩

/-- What a Draw does. -/
def Drawn (b g : Nat) (l : List Int) (v : Value) (k : Nat) (w : World) (e : Ending) (w' : World) : Prop := e = .returned v ∧ DiceAt w' b g l k ∧ Touch b w w'

theorem draw_any {b g : Nat} {l : List Int} {k : Nat} (n : Int) {w : World} (D : DiceAt w b g l k) :
    Calls Try.prog 17 #[.pointer (some ⟨b, 0, none⟩), .int .i64 n] w (Drawn b g l (.int .i64 (drawV l k n)) (drawK l k n) w) := by
  have hk := D.hk
  by_cases hn : n < 1
  · have e1 : drawV l k n = 0 := by unfold drawV; rw [if_pos (.inl hn)]
    have e2 : drawK l k n = k := by unfold drawK; rw [if_pos (.inl hn)]
    rw [e1, e2]
    exact (draw_low b n w hn).mono fun e w' ⟨he, q, hw⟩ => ⟨he, by rw [hw]; exact D.drewN q, by rw [hw]; exact touch_drewN b w q⟩
  by_cases hl : l.length ≤ k
  · have e1 : drawV l k n = 0 := by unfold drawV; rw [if_pos (.inr hl)]
    have e2 : drawK l k n = k := by unfold drawK; rw [if_pos (.inr hl)]
    rw [e1, e2]
    exact (draw_none b g l.length k n w (by omega) D.small hk hl D.c0 D.c1).mono fun e w' ⟨he, q, hw⟩ => ⟨he, by rw [hw]; exact D.drewN q, by rw [hw]; exact touch_drewN b w q⟩
  · have e1 : drawV l k n = l.getD k 0 % n := by unfold drawV; rw [if_neg (by omega)]
    have e2 : drawK l k n = k + 1 := by unfold drawK; rw [if_neg (by omega)]
    rw [e1, e2]
    exact (draw_some b g l.length k n (l.getD k 0) w (by omega) D.small (by omega) D.c0 D.c1 D.f1 (D.row k (by omega)) (D.rng k).1 (D.rng k).2).mono fun e w' ⟨he, q, hw⟩ =>
      ⟨he, by rw [hw]; exact D.set (by omega) q, by rw [hw]; exact touch_set b 1 w _ q⟩

set_option maxHeartbeats 400000 in
theorem drawn_any {b g : Nat} {l : List Int} {k : Nat} {w : World} (D : DiceAt w b g l k) :
    Calls Try.prog 18 #[.pointer (some ⟨b, 0, none⟩)] w fun e w' => e = .returned (.int .i64 k) ∧ w = w' := by
  have h1 := D.c1
  clear D
  go_enter Try.func18, Try.ntmps18
  go_wp2
  go_ret
  exact ⟨rfl, rfl⟩

theorem left_plain (b g : Nat) (n k : Nat) (w : World) (_hn : n ≤ 300) (_hk : k ≤ n) (h0 : w.cell? ⟨b, 0, none⟩ = some (.slice (some ⟨g, 0, none⟩) n n)) (h1 : w.cell? ⟨b, 1, none⟩ = some (.int .i64 k)) :
    Calls Try.prog 19 #[.pointer (some ⟨b, 0, none⟩)] w fun e w' => e = .returned (.int .i64 ((n : Int) - k)) ∧ ∃ q, w' = w.drewN q := by
  go_enter Try.func19, Try.ntmps19
  go_wp2
  go_quiet (fail)
  go_wp2
  go_ret
  exact ⟨rfl, _, rfl⟩

theorem left_any {b g : Nat} {l : List Int} {k : Nat} {w : World} (D : DiceAt w b g l k) :
    Calls Try.prog 19 #[.pointer (some ⟨b, 0, none⟩)] w fun e w' => e = .returned (.int .i64 ((l.length : Int) - k)) ∧ ∃ q, w' = w.drewN q :=
  left_plain b g l.length k w D.small D.hk D.c0 D.c1

end Go.Proofs.Yteffilepolbgbaa
