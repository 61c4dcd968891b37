/-
  No cell of these rows narrows 'for every input' (looked for: loops, veiled, ifaces, maps, wideKeys, modest, calm, conditions, laid).
  DERIVED. THE GIVEN ROWS OF THIS SEAT. 11 by the template 'for every input the law returns true; each argument reads behind the call as it read before'; 0 by the template 'total and deterministic' (their statements: YteffilepolbgbaaTotals.lean).
  GIVEN WITH THE SEED: the statements are not yours to turn. If you find one false, say at which input.
  Laid BY PROGRAM, IN A SANDBOX (cutbox-rows.mjs): the forced cells as the released guide's own fill.sh prints them over the translation ca26035974b44854… (all of the seat's roots in one cut). By AI agents, Wed Nov 11 2026. No macro, syntax, notation, axiom, sorry.
-/
import Derived.Test.YteffilepolbgbaaChecked
import GoSem.Claim
import GoSem.ClaimJoined
import GoSem.ClaimMapViews
import Derived.JoinedTies
import Derived.KernelRfl
namespace Go.Proofs.Yteffilepolbgbaa
/- THE CELL 'sum', in the pinned program and in every row, IS THE sha256 OF THE DUMP (.gsa) THAT YteffilepolbgbaaProg.lean LOADS. Nothing in Lean hashes anything: it is a label: what it is worth is what the hold of that sum in a sandbox is worth. -/
noncomputable def Try.pinned : Pinned := { name := "yteffilepolbgbaa", sum := "ca26035974b448540ea73c6e1532304592c38b9ebe1f9b98b0e3a7a108ffd1ee", checked := Try.checked }
namespace Rows
def none {H : Type} : Left H := { results := [], args := [] }

/-- 'handofflaw01.DiceDraws': WHATEVER THE INPUT: true; the input reads as it did. -/
def diceDrawsSpec : ChangeSpec := { name := "diceDraws", fn := fun _ => fun
  | [d1, d2] => { results := [.lit (.bool true)], args := [d1, d2] }
  | _ => none }
def diceDrawsRow : OpenClaim := { program := "yteffilepolbgbaa", sum := "ca26035974b448540ea73c6e1532304592c38b9ebe1f9b98b0e3a7a108ffd1ee", func := "handoff/handofflaw01.DiceDraws", spec := "diceDraws", apart := false }
def DiceDrawsSaid : Prop := diceDrawsRow.holds Try.pinned (OpenSpec.ofChange diceDrawsSpec)

/-- ITS FALSE NEIGHBOUR: 'it returns false'. Refute it at one input. -/
def diceDrawsWrong : ChangeSpec := { name := "diceDraws", fn := fun _ => fun
  | [d1, d2] => { results := [.lit (.bool false)], args := [d1, d2] }
  | _ => none }
def DiceDrawsWrongFalsely : Prop := diceDrawsRow.holds Try.pinned (OpenSpec.ofChange diceDrawsWrong)

/-- 'handofflaw01.DiceKeeps': WHATEVER THE INPUT: true; the input reads as it did. -/
def diceKeepsSpec : ChangeSpec := { name := "diceKeeps", fn := fun _ => fun
  | [d1, d2, d3] => { results := [.lit (.bool true)], args := [d1, d2, d3] }
  | _ => none }
def diceKeepsRow : OpenClaim := { program := "yteffilepolbgbaa", sum := "ca26035974b448540ea73c6e1532304592c38b9ebe1f9b98b0e3a7a108ffd1ee", func := "handoff/handofflaw01.DiceKeeps", spec := "diceKeeps", apart := false }
def DiceKeepsSaid : Prop := diceKeepsRow.holds Try.pinned (OpenSpec.ofChange diceKeepsSpec)

/-- ITS FALSE NEIGHBOUR: 'it returns false'. Refute it at one input. -/
def diceKeepsWrong : ChangeSpec := { name := "diceKeeps", fn := fun _ => fun
  | [d1, d2, d3] => { results := [.lit (.bool false)], args := [d1, d2, d3] }
  | _ => none }
def DiceKeepsWrongFalsely : Prop := diceKeepsRow.holds Try.pinned (OpenSpec.ofChange diceKeepsWrong)

/-- 'handofflaw02.ShuffleAll': WHATEVER THE INPUT: true; the input reads as it did. -/
def shuffleAllSpec : ChangeSpec := { name := "shuffleAll", fn := fun _ => fun
  | [d] => { results := [.lit (.bool true)], args := [d] }
  | _ => none }
def shuffleAllRow : OpenClaim := { program := "yteffilepolbgbaa", sum := "ca26035974b448540ea73c6e1532304592c38b9ebe1f9b98b0e3a7a108ffd1ee", func := "handoff/handofflaw02.ShuffleAll", spec := "shuffleAll", recurses := true, apart := false }
def ShuffleAllSaid : Prop := shuffleAllRow.holds Try.pinned (OpenSpec.ofChange shuffleAllSpec)

/-- ITS FALSE NEIGHBOUR: 'it returns false'. Refute it at one input. -/
def shuffleAllWrong : ChangeSpec := { name := "shuffleAll", fn := fun _ => fun
  | [d] => { results := [.lit (.bool false)], args := [d] }
  | _ => none }
def ShuffleAllWrongFalsely : Prop := shuffleAllRow.holds Try.pinned (OpenSpec.ofChange shuffleAllWrong)

/-- 'handofflaw02.ShuffleFirsts': WHATEVER THE INPUT: true; the input reads as it did. -/
def shuffleFirstsSpec : ChangeSpec := { name := "shuffleFirsts", fn := fun _ => fun
  | [d1, d2] => { results := [.lit (.bool true)], args := [d1, d2] }
  | _ => none }
def shuffleFirstsRow : OpenClaim := { program := "yteffilepolbgbaa", sum := "ca26035974b448540ea73c6e1532304592c38b9ebe1f9b98b0e3a7a108ffd1ee", func := "handoff/handofflaw02.ShuffleFirsts", spec := "shuffleFirsts", apart := false }
def ShuffleFirstsSaid : Prop := shuffleFirstsRow.holds Try.pinned (OpenSpec.ofChange shuffleFirstsSpec)

/-- ITS FALSE NEIGHBOUR: 'it returns false'. Refute it at one input. -/
def shuffleFirstsWrong : ChangeSpec := { name := "shuffleFirsts", fn := fun _ => fun
  | [d1, d2] => { results := [.lit (.bool false)], args := [d1, d2] }
  | _ => none }
def ShuffleFirstsWrongFalsely : Prop := shuffleFirstsRow.holds Try.pinned (OpenSpec.ofChange shuffleFirstsWrong)

/-- 'handofflaw02.ShuffleFair': WHATEVER THE INPUT: true; the input reads as it did. -/
def shuffleFairSpec : ChangeSpec := { name := "shuffleFair", fn := fun _ => fun
  | [d] => { results := [.lit (.bool true)], args := [d] }
  | _ => none }
def shuffleFairRow : OpenClaim := { program := "yteffilepolbgbaa", sum := "ca26035974b448540ea73c6e1532304592c38b9ebe1f9b98b0e3a7a108ffd1ee", func := "handoff/handofflaw02.ShuffleFair", spec := "shuffleFair", recurses := true, apart := false }
def ShuffleFairSaid : Prop := shuffleFairRow.holds Try.pinned (OpenSpec.ofChange shuffleFairSpec)

/-- ITS FALSE NEIGHBOUR: 'it returns false'. Refute it at one input. -/
def shuffleFairWrong : ChangeSpec := { name := "shuffleFair", fn := fun _ => fun
  | [d] => { results := [.lit (.bool false)], args := [d] }
  | _ => none }
def ShuffleFairWrongFalsely : Prop := shuffleFairRow.holds Try.pinned (OpenSpec.ofChange shuffleFairWrong)

/-- 'handofflaw03.OrderLocks': WHATEVER THE INPUT: true; the input reads as it did. -/
def orderLocksSpec : ChangeSpec := { name := "orderLocks", fn := fun _ => fun
  | [d] => { results := [.lit (.bool true)], args := [d] }
  | _ => none }
def orderLocksRow : OpenClaim := { program := "yteffilepolbgbaa", sum := "ca26035974b448540ea73c6e1532304592c38b9ebe1f9b98b0e3a7a108ffd1ee", func := "handoff/handofflaw03.OrderLocks", spec := "orderLocks", apart := false }
def OrderLocksSaid : Prop := orderLocksRow.holds Try.pinned (OpenSpec.ofChange orderLocksSpec)

/-- ITS FALSE NEIGHBOUR: 'it returns false'. Refute it at one input. -/
def orderLocksWrong : ChangeSpec := { name := "orderLocks", fn := fun _ => fun
  | [d] => { results := [.lit (.bool false)], args := [d] }
  | _ => none }
def OrderLocksWrongFalsely : Prop := orderLocksRow.holds Try.pinned (OpenSpec.ofChange orderLocksWrong)

/-- 'handofflaw23.FairTells': WHATEVER THE INPUT: true; the input reads as it did. -/
def fairTellsSpec : ChangeSpec := { name := "fairTells", fn := fun _ => fun
  | [d1, d2, d3] => { results := [.lit (.bool true)], args := [d1, d2, d3] }
  | _ => none }
def fairTellsRow : OpenClaim := { program := "yteffilepolbgbaa", sum := "ca26035974b448540ea73c6e1532304592c38b9ebe1f9b98b0e3a7a108ffd1ee", func := "handoff/handofflaw23.FairTells", spec := "fairTells", apart := false }
def FairTellsSaid : Prop := fairTellsRow.holds Try.pinned (OpenSpec.ofChange fairTellsSpec)

/-- ITS FALSE NEIGHBOUR: 'it returns false'. Refute it at one input. -/
def fairTellsWrong : ChangeSpec := { name := "fairTells", fn := fun _ => fun
  | [d1, d2, d3] => { results := [.lit (.bool false)], args := [d1, d2, d3] }
  | _ => none }
def FairTellsWrongFalsely : Prop := fairTellsRow.holds Try.pinned (OpenSpec.ofChange fairTellsWrong)

/-- 'handofflaw03.OrderSorts': WHATEVER THE INPUT: true; the input reads as it did. -/
def orderSortsSpec : ChangeSpec := { name := "orderSorts", fn := fun _ => fun
  | [d] => { results := [.lit (.bool true)], args := [d] }
  | _ => none }
def orderSortsRow : OpenClaim := { program := "yteffilepolbgbaa", sum := "ca26035974b448540ea73c6e1532304592c38b9ebe1f9b98b0e3a7a108ffd1ee", func := "handoff/handofflaw03.OrderSorts", spec := "orderSorts", apart := false }
def OrderSortsSaid : Prop := orderSortsRow.holds Try.pinned (OpenSpec.ofChange orderSortsSpec)

/-- ITS FALSE NEIGHBOUR: 'it returns false'. Refute it at one input. -/
def orderSortsWrong : ChangeSpec := { name := "orderSorts", fn := fun _ => fun
  | [d] => { results := [.lit (.bool false)], args := [d] }
  | _ => none }
def OrderSortsWrongFalsely : Prop := orderSortsRow.holds Try.pinned (OpenSpec.ofChange orderSortsWrong)

/-- 'handofflaw03.OrderKeeps': WHATEVER THE INPUT: true; the input reads as it did. -/
def orderKeepsSpec : ChangeSpec := { name := "orderKeeps", fn := fun _ => fun
  | [d1, d2] => { results := [.lit (.bool true)], args := [d1, d2] }
  | _ => none }
def orderKeepsRow : OpenClaim := { program := "yteffilepolbgbaa", sum := "ca26035974b448540ea73c6e1532304592c38b9ebe1f9b98b0e3a7a108ffd1ee", func := "handoff/handofflaw03.OrderKeeps", spec := "orderKeeps", apart := false }
def OrderKeepsSaid : Prop := orderKeepsRow.holds Try.pinned (OpenSpec.ofChange orderKeepsSpec)

/-- ITS FALSE NEIGHBOUR: 'it returns false'. Refute it at one input. -/
def orderKeepsWrong : ChangeSpec := { name := "orderKeeps", fn := fun _ => fun
  | [d1, d2] => { results := [.lit (.bool false)], args := [d1, d2] }
  | _ => none }
def OrderKeepsWrongFalsely : Prop := orderKeepsRow.holds Try.pinned (OpenSpec.ofChange orderKeepsWrong)

/-- 'handofflaw02.ShuffleOrders': WHATEVER THE INPUT: true; the input reads as it did. -/
def shuffleOrdersSpec : ChangeSpec := { name := "shuffleOrders", fn := fun _ => fun
  | [d1, d2, d3] => { results := [.lit (.bool true)], args := [d1, d2, d3] }
  | _ => none }
def shuffleOrdersRow : OpenClaim := { program := "yteffilepolbgbaa", sum := "ca26035974b448540ea73c6e1532304592c38b9ebe1f9b98b0e3a7a108ffd1ee", func := "handoff/handofflaw02.ShuffleOrders", spec := "shuffleOrders", recurses := true, apart := false }
def ShuffleOrdersSaid : Prop := shuffleOrdersRow.holds Try.pinned (OpenSpec.ofChange shuffleOrdersSpec)

/-- ITS FALSE NEIGHBOUR: 'it returns false'. Refute it at one input. -/
def shuffleOrdersWrong : ChangeSpec := { name := "shuffleOrders", fn := fun _ => fun
  | [d1, d2, d3] => { results := [.lit (.bool false)], args := [d1, d2, d3] }
  | _ => none }
def ShuffleOrdersWrongFalsely : Prop := shuffleOrdersRow.holds Try.pinned (OpenSpec.ofChange shuffleOrdersWrong)

/-- 'handofflaw02.ShuffleBack': WHATEVER THE INPUT: true; the input reads as it did. -/
def shuffleBackSpec : ChangeSpec := { name := "shuffleBack", fn := fun _ => fun
  | [d] => { results := [.lit (.bool true)], args := [d] }
  | _ => none }
def shuffleBackRow : OpenClaim := { program := "yteffilepolbgbaa", sum := "ca26035974b448540ea73c6e1532304592c38b9ebe1f9b98b0e3a7a108ffd1ee", func := "handoff/handofflaw02.ShuffleBack", spec := "shuffleBack", apart := false }
def ShuffleBackSaid : Prop := shuffleBackRow.holds Try.pinned (OpenSpec.ofChange shuffleBackSpec)

/-- ITS FALSE NEIGHBOUR: 'it returns false'. Refute it at one input. -/
def shuffleBackWrong : ChangeSpec := { name := "shuffleBack", fn := fun _ => fun
  | [d] => { results := [.lit (.bool false)], args := [d] }
  | _ => none }
def ShuffleBackWrongFalsely : Prop := shuffleBackRow.holds Try.pinned (OpenSpec.ofChange shuffleBackWrong)

/- THE SECOND FORM. 'bulk': how many values and letters a reading holds, each counted each time it is reached (what is shared counts as often as it is met; a slice's spare places count too). A statement '..UptoSaid' is the law's where the arguments, and the package variables that the reading takes, are together of bulk at most 1048576: NARROWER than '..Said'. Prove '..Said' where nothing that the law and all that it calls make is longer than what came in: it says more and counts as full. Else prove '..UptoSaid'. A law counts once. -/
mutual
def uptoBulk {H : Type} : DataW H → Nat
  | .lit (.string bytes) => bytes.length + 1
  | .lit _ => 1
  | .nil => 1
  | .ptr d => uptoBulk d + 1
  | .slice elems spare => uptoBulkAll elems + uptoBulkAll spare + 1
  | .agg parts => uptoBulkAll parts + 1
  | .iface _ d => uptoBulk d + 1
  | .map entries => uptoBulkEntries entries + 1
  | .held _ => 1
def uptoBulkAll {H : Type} : List (DataW H) → Nat
  | [] => 0
  | d :: r => uptoBulk d + uptoBulkAll r
def uptoBulkEntries {H : Type} : List (Lit × DataW H) → Nat
  | [] => 0
  | x :: r => uptoBulkEntry x + uptoBulkEntries r
def uptoBulkEntry {H : Type} : Lit × DataW H → Nat
  | (.string bytes, d) => bytes.length + uptoBulk d + 1
  | (_, d) => uptoBulk d + 1
 end
def uptoSmall : (H : Type) → List (DataW H) → Bool := fun _ ds => decide (uptoBulkAll ds ≤ 1048576)
def OpenSpec.upto (s : _root_.Go.ChangeSpec) : _root_.Go.OpenSpec := { _root_.Go.OpenSpec.ofChange s with cond := some uptoSmall }

/-- 'handofflaw01.DiceDraws', WHERE WHAT IT READS IS OF BULK AT MOST 1048576: true; the input reads as it did. -/
def diceDrawsUptoRow : OpenClaim := { program := "yteffilepolbgbaa", sum := "ca26035974b448540ea73c6e1532304592c38b9ebe1f9b98b0e3a7a108ffd1ee", func := "handoff/handofflaw01.DiceDraws", spec := "diceDraws", apart := false, narrowed := true }
def DiceDrawsUptoSaid : Prop := diceDrawsUptoRow.holds Try.pinned (OpenSpec.upto diceDrawsSpec)

/-- 'handofflaw01.DiceKeeps', WHERE WHAT IT READS IS OF BULK AT MOST 1048576: true; the input reads as it did. -/
def diceKeepsUptoRow : OpenClaim := { program := "yteffilepolbgbaa", sum := "ca26035974b448540ea73c6e1532304592c38b9ebe1f9b98b0e3a7a108ffd1ee", func := "handoff/handofflaw01.DiceKeeps", spec := "diceKeeps", apart := false, narrowed := true }
def DiceKeepsUptoSaid : Prop := diceKeepsUptoRow.holds Try.pinned (OpenSpec.upto diceKeepsSpec)

/-- 'handofflaw02.ShuffleAll', WHERE WHAT IT READS IS OF BULK AT MOST 1048576: true; the input reads as it did. -/
def shuffleAllUptoRow : OpenClaim := { program := "yteffilepolbgbaa", sum := "ca26035974b448540ea73c6e1532304592c38b9ebe1f9b98b0e3a7a108ffd1ee", func := "handoff/handofflaw02.ShuffleAll", spec := "shuffleAll", recurses := true, apart := false, narrowed := true }
def ShuffleAllUptoSaid : Prop := shuffleAllUptoRow.holds Try.pinned (OpenSpec.upto shuffleAllSpec)

/-- 'handofflaw02.ShuffleFirsts', WHERE WHAT IT READS IS OF BULK AT MOST 1048576: true; the input reads as it did. -/
def shuffleFirstsUptoRow : OpenClaim := { program := "yteffilepolbgbaa", sum := "ca26035974b448540ea73c6e1532304592c38b9ebe1f9b98b0e3a7a108ffd1ee", func := "handoff/handofflaw02.ShuffleFirsts", spec := "shuffleFirsts", apart := false, narrowed := true }
def ShuffleFirstsUptoSaid : Prop := shuffleFirstsUptoRow.holds Try.pinned (OpenSpec.upto shuffleFirstsSpec)

/-- 'handofflaw02.ShuffleFair', WHERE WHAT IT READS IS OF BULK AT MOST 1048576: true; the input reads as it did. -/
def shuffleFairUptoRow : OpenClaim := { program := "yteffilepolbgbaa", sum := "ca26035974b448540ea73c6e1532304592c38b9ebe1f9b98b0e3a7a108ffd1ee", func := "handoff/handofflaw02.ShuffleFair", spec := "shuffleFair", recurses := true, apart := false, narrowed := true }
def ShuffleFairUptoSaid : Prop := shuffleFairUptoRow.holds Try.pinned (OpenSpec.upto shuffleFairSpec)

/-- 'handofflaw03.OrderLocks', WHERE WHAT IT READS IS OF BULK AT MOST 1048576: true; the input reads as it did. -/
def orderLocksUptoRow : OpenClaim := { program := "yteffilepolbgbaa", sum := "ca26035974b448540ea73c6e1532304592c38b9ebe1f9b98b0e3a7a108ffd1ee", func := "handoff/handofflaw03.OrderLocks", spec := "orderLocks", apart := false, narrowed := true }
def OrderLocksUptoSaid : Prop := orderLocksUptoRow.holds Try.pinned (OpenSpec.upto orderLocksSpec)

/-- 'handofflaw23.FairTells', WHERE WHAT IT READS IS OF BULK AT MOST 1048576: true; the input reads as it did. -/
def fairTellsUptoRow : OpenClaim := { program := "yteffilepolbgbaa", sum := "ca26035974b448540ea73c6e1532304592c38b9ebe1f9b98b0e3a7a108ffd1ee", func := "handoff/handofflaw23.FairTells", spec := "fairTells", apart := false, narrowed := true }
def FairTellsUptoSaid : Prop := fairTellsUptoRow.holds Try.pinned (OpenSpec.upto fairTellsSpec)

/-- 'handofflaw03.OrderSorts', WHERE WHAT IT READS IS OF BULK AT MOST 1048576: true; the input reads as it did. -/
def orderSortsUptoRow : OpenClaim := { program := "yteffilepolbgbaa", sum := "ca26035974b448540ea73c6e1532304592c38b9ebe1f9b98b0e3a7a108ffd1ee", func := "handoff/handofflaw03.OrderSorts", spec := "orderSorts", apart := false, narrowed := true }
def OrderSortsUptoSaid : Prop := orderSortsUptoRow.holds Try.pinned (OpenSpec.upto orderSortsSpec)

/-- 'handofflaw03.OrderKeeps', WHERE WHAT IT READS IS OF BULK AT MOST 1048576: true; the input reads as it did. -/
def orderKeepsUptoRow : OpenClaim := { program := "yteffilepolbgbaa", sum := "ca26035974b448540ea73c6e1532304592c38b9ebe1f9b98b0e3a7a108ffd1ee", func := "handoff/handofflaw03.OrderKeeps", spec := "orderKeeps", apart := false, narrowed := true }
def OrderKeepsUptoSaid : Prop := orderKeepsUptoRow.holds Try.pinned (OpenSpec.upto orderKeepsSpec)

/-- 'handofflaw02.ShuffleOrders', WHERE WHAT IT READS IS OF BULK AT MOST 1048576: true; the input reads as it did. -/
def shuffleOrdersUptoRow : OpenClaim := { program := "yteffilepolbgbaa", sum := "ca26035974b448540ea73c6e1532304592c38b9ebe1f9b98b0e3a7a108ffd1ee", func := "handoff/handofflaw02.ShuffleOrders", spec := "shuffleOrders", recurses := true, apart := false, narrowed := true }
def ShuffleOrdersUptoSaid : Prop := shuffleOrdersUptoRow.holds Try.pinned (OpenSpec.upto shuffleOrdersSpec)

/-- 'handofflaw02.ShuffleBack', WHERE WHAT IT READS IS OF BULK AT MOST 1048576: true; the input reads as it did. -/
def shuffleBackUptoRow : OpenClaim := { program := "yteffilepolbgbaa", sum := "ca26035974b448540ea73c6e1532304592c38b9ebe1f9b98b0e3a7a108ffd1ee", func := "handoff/handofflaw02.ShuffleBack", spec := "shuffleBack", apart := false, narrowed := true }
def ShuffleBackUptoSaid : Prop := shuffleBackUptoRow.holds Try.pinned (OpenSpec.upto shuffleBackSpec)

end Rows
end Go.Proofs.Yteffilepolbgbaa
