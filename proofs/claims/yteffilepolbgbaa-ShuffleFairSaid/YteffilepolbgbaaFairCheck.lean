/- Of all orders of up to six each number that may be is the first one just as often: counted by the kernel, over Nat. -/
import Derived.Test.YteffilepolbgbaaAll
namespace Go.Proofs.Yteffilepolbgbaa
set_option linter.unusedVariables false

/-! ### Over Nat, for the kernel -/
def stepN (cur : List Nat) (j : Nat) : List Nat := (cur ++ [cur.getD j cur.length]).set j cur.length
def ordersN : Nat → List (List Nat)
  | 0 => [[]]
  | n + 1 => (ordersN n).flatMap fun l => (List.range (n + 1)).map fun d => stepN l d
def firstN : List Nat → List Bool → Nat
  | [], _ => 9
  | x :: l, bs => bif bs.getD x false then x else firstN l bs
def boolsN : Nat → List (List Bool)
  | 0 => [[]]
  | n + 1 => (boolsN n).flatMap fun l => [true :: l, false :: l]
def cntWin (bs : List Bool) (i : Nat) : List (List Nat) → Nat → Nat
  | [], a => a
  | o :: os, a => bif Nat.beq (firstN o bs) i then cntWin bs i os (Nat.succ a) else cntWin bs i os a
def numT : List Bool → Nat
  | [] => 0
  | b :: l => bif b then Nat.succ (numT l) else numT l
def checkF (n : Nat) : Bool := (boolsN n).all fun bs => (List.range n).all fun i => Nat.beq (cntWin bs i (ordersN n) 0) (bif bs.getD i false then facN n / numT bs else 0)

set_option maxRecDepth 100000 in
theorem check0 : checkF 0 = true := by decide +kernel
set_option maxRecDepth 100000 in
theorem check1 : checkF 1 = true := by decide +kernel
set_option maxRecDepth 100000 in
theorem check2 : checkF 2 = true := by decide +kernel
set_option maxRecDepth 100000 in
theorem check3 : checkF 3 = true := by decide +kernel
set_option maxRecDepth 100000 in
theorem check4 : checkF 4 = true := by decide +kernel
set_option maxRecDepth 100000 in
theorem check5 : checkF 5 = true := by decide +kernel
set_option maxRecDepth 100000 in
theorem check6 : checkF 6 = true := by decide +kernel

theorem check_all (n : Nat) (h : n ≤ 6) : checkF n = true := by
  match n, h with
  | 0, _ => exact check0
  | 1, _ => exact check1
  | 2, _ => exact check2
  | 3, _ => exact check3
  | 4, _ => exact check4
  | 5, _ => exact check5
  | 6, _ => exact check6

theorem mem_boolsN : ∀ bs : List Bool, bs ∈ boolsN bs.length := by
  intro bs
  induction bs with
  | nil => simp [boolsN]
  | cons b l ih =>
    show b :: l ∈ (boolsN l.length).flatMap _
    refine List.mem_flatMap.2 ⟨l, ih, ?_⟩
    cases b <;> simp

theorem cnt_nat (bs : List Bool) (h : bs.length ≤ 6) (i : Nat) (hi : i < bs.length) : cntWin bs i (ordersN bs.length) 0 = if bs.getD i false = true then facN bs.length / numT bs else 0 := by
  have h1 := check_all bs.length h
  unfold checkF at h1
  have h2 := List.all_eq_true.1 h1 bs (mem_boolsN bs)
  have h3 := List.all_eq_true.1 h2 i (List.mem_range.2 hi)
  have h4 := Nat.eq_of_beq_eq_true h3
  rw [h4]
  cases bs.getD i false <;> rfl

end Go.Proofs.Yteffilepolbgbaa
