/-
  No cell of these rows narrows 'for every input' (looked for: loops, veiled, ifaces, maps, wideKeys, modest, calm, conditions, laid).
  DERIVED. THE GIVEN ROWS OF THIS SEAT. 5 by the template 'for every input the law returns true; each argument reads behind the call as it read before'; 0 by the template 'total and deterministic' (their statements: YthdfgkbfjpadbaaTotals.lean).
  GIVEN WITH THE SEED: the statements are not yours to turn. If you find one false, say at which input.
  Laid BY PROGRAM, IN A SANDBOX (cutbox-rows.mjs): the forced cells as the released guide's own fill.sh prints them over the translation 4aefb81509b05fc3… (all of the seat's roots in one cut). By AI agents, Wed Nov 11 2026. No macro, syntax, notation, axiom, sorry.
-/
import Derived.Test.YthdfgkbfjpadbaaChecked
import GoSem.Claim
import GoSem.ClaimJoined
import GoSem.ClaimMapViews
import Derived.JoinedTies
import Derived.KernelRfl
namespace Go.Proofs.Ythdfgkbfjpadbaa
/- THE CELL 'sum', in the pinned program and in every row, IS THE sha256 OF THE DUMP (.gsa) THAT YthdfgkbfjpadbaaProg.lean LOADS. Nothing in Lean hashes anything: it is a label: what it is worth is what the hold of that sum in a sandbox is worth. -/
noncomputable def Try.pinned : Pinned := { name := "ythdfgkbfjpadbaa", sum := "4aefb81509b05fc3102acac8b92c1d2ad323c2630c10ba61f0486391ed8eecfe", checked := Try.checked }
namespace Rows
def none {H : Type} : Left H := { results := [], args := [] }

/-- 'tartanlaw21.OrderWeaves': WHATEVER THE INPUT: true; the input reads as it did. -/
def orderWeavesSpec : ChangeSpec := { name := "orderWeaves", fn := fun _ => fun
  | [d1, d2] => { results := [.lit (.bool true)], args := [d1, d2] }
  | _ => none }
def orderWeavesRow : OpenClaim := { program := "ythdfgkbfjpadbaa", sum := "4aefb81509b05fc3102acac8b92c1d2ad323c2630c10ba61f0486391ed8eecfe", func := "tartan/tartanlaw21.OrderWeaves", spec := "orderWeaves", unfollowed := true, recurses := true, apart := false }
def OrderWeavesSaid : Prop := orderWeavesRow.holds Try.pinned (OpenSpec.ofChange orderWeavesSpec)

/-- ITS FALSE NEIGHBOUR: 'it returns false'. Refute it at one input. -/
def orderWeavesWrong : ChangeSpec := { name := "orderWeaves", fn := fun _ => fun
  | [d1, d2] => { results := [.lit (.bool false)], args := [d1, d2] }
  | _ => none }
def OrderWeavesWrongFalsely : Prop := orderWeavesRow.holds Try.pinned (OpenSpec.ofChange orderWeavesWrong)

/-- 'tartanlaw21.OrderMerges': WHATEVER THE INPUT: true; the input reads as it did. -/
def orderMergesSpec : ChangeSpec := { name := "orderMerges", fn := fun _ => fun
  | [d1, d2, d3, d4] => { results := [.lit (.bool true)], args := [d1, d2, d3, d4] }
  | _ => none }
def orderMergesRow : OpenClaim := { program := "ythdfgkbfjpadbaa", sum := "4aefb81509b05fc3102acac8b92c1d2ad323c2630c10ba61f0486391ed8eecfe", func := "tartan/tartanlaw21.OrderMerges", spec := "orderMerges", unfollowed := true, recurses := true, apart := false }
def OrderMergesSaid : Prop := orderMergesRow.holds Try.pinned (OpenSpec.ofChange orderMergesSpec)

/-- ITS FALSE NEIGHBOUR: 'it returns false'. Refute it at one input. -/
def orderMergesWrong : ChangeSpec := { name := "orderMerges", fn := fun _ => fun
  | [d1, d2, d3, d4] => { results := [.lit (.bool false)], args := [d1, d2, d3, d4] }
  | _ => none }
def OrderMergesWrongFalsely : Prop := orderMergesRow.holds Try.pinned (OpenSpec.ofChange orderMergesWrong)

/-- 'tartanlaw21.OrderAll': WHATEVER THE INPUT: true; the input reads as it did. -/
def orderAllSpec : ChangeSpec := { name := "orderAll", fn := fun _ => fun
  | [d1, d2, d3] => { results := [.lit (.bool true)], args := [d1, d2, d3] }
  | _ => none }
def orderAllRow : OpenClaim := { program := "ythdfgkbfjpadbaa", sum := "4aefb81509b05fc3102acac8b92c1d2ad323c2630c10ba61f0486391ed8eecfe", func := "tartan/tartanlaw21.OrderAll", spec := "orderAll", unfollowed := true, recurses := true, apart := false }
def OrderAllSaid : Prop := orderAllRow.holds Try.pinned (OpenSpec.ofChange orderAllSpec)

/-- ITS FALSE NEIGHBOUR: 'it returns false'. Refute it at one input. -/
def orderAllWrong : ChangeSpec := { name := "orderAll", fn := fun _ => fun
  | [d1, d2, d3] => { results := [.lit (.bool false)], args := [d1, d2, d3] }
  | _ => none }
def OrderAllWrongFalsely : Prop := orderAllRow.holds Try.pinned (OpenSpec.ofChange orderAllWrong)

/-- 'tartanlaw21.OrderKeeps': WHATEVER THE INPUT: true; the input reads as it did. -/
def orderKeepsSpec : ChangeSpec := { name := "orderKeeps", fn := fun _ => fun
  | [d1, d2] => { results := [.lit (.bool true)], args := [d1, d2] }
  | _ => none }
def orderKeepsRow : OpenClaim := { program := "ythdfgkbfjpadbaa", sum := "4aefb81509b05fc3102acac8b92c1d2ad323c2630c10ba61f0486391ed8eecfe", func := "tartan/tartanlaw21.OrderKeeps", spec := "orderKeeps", unfollowed := true, recurses := true, apart := false }
def OrderKeepsSaid : Prop := orderKeepsRow.holds Try.pinned (OpenSpec.ofChange orderKeepsSpec)

/-- ITS FALSE NEIGHBOUR: 'it returns false'. Refute it at one input. -/
def orderKeepsWrong : ChangeSpec := { name := "orderKeeps", fn := fun _ => fun
  | [d1, d2] => { results := [.lit (.bool false)], args := [d1, d2] }
  | _ => none }
def OrderKeepsWrongFalsely : Prop := orderKeepsRow.holds Try.pinned (OpenSpec.ofChange orderKeepsWrong)

/-- 'tartanlaw21.OrderSides': WHATEVER THE INPUT: true; the input reads as it did. -/
def orderSidesSpec : ChangeSpec := { name := "orderSides", fn := fun _ => fun
  | [d1, d2] => { results := [.lit (.bool true)], args := [d1, d2] }
  | _ => none }
def orderSidesRow : OpenClaim := { program := "ythdfgkbfjpadbaa", sum := "4aefb81509b05fc3102acac8b92c1d2ad323c2630c10ba61f0486391ed8eecfe", func := "tartan/tartanlaw21.OrderSides", spec := "orderSides", unfollowed := true, recurses := true, apart := false }
def OrderSidesSaid : Prop := orderSidesRow.holds Try.pinned (OpenSpec.ofChange orderSidesSpec)

/-- ITS FALSE NEIGHBOUR: 'it returns false'. Refute it at one input. -/
def orderSidesWrong : ChangeSpec := { name := "orderSides", fn := fun _ => fun
  | [d1, d2] => { results := [.lit (.bool false)], args := [d1, d2] }
  | _ => none }
def OrderSidesWrongFalsely : Prop := orderSidesRow.holds Try.pinned (OpenSpec.ofChange orderSidesWrong)

/- THE SECOND FORM. 'bulk': how many values and letters a reading holds, each counted each time it is reached (what is shared counts as often as it is met; a slice's spare places count too). A statement '..UptoSaid' is the law's where the arguments, and the package variables that the reading takes, are together of bulk at most 1048576: NARROWER than '..Said'. Prove '..Said' where nothing that the law and all that it calls make is longer than what came in: it says more and counts as full. Else prove '..UptoSaid'. A law counts once. -/
mutual
def uptoBulk {H : Type} : DataW H → Nat
  | .lit (.string bytes) => bytes.length + 1
  | .lit _ => 1
  | .nil => 1
  | .ptr d => uptoBulk d + 1
  | .slice elems spare => uptoBulkAll elems + uptoBulkAll spare + 1
  | .agg parts => uptoBulkAll parts + 1
  | .iface _ d => uptoBulk d + 1
  | .map entries => uptoBulkEntries entries + 1
  | .held _ => 1
def uptoBulkAll {H : Type} : List (DataW H) → Nat
  | [] => 0
  | d :: r => uptoBulk d + uptoBulkAll r
def uptoBulkEntries {H : Type} : List (Lit × DataW H) → Nat
  | [] => 0
  | x :: r => uptoBulkEntry x + uptoBulkEntries r
def uptoBulkEntry {H : Type} : Lit × DataW H → Nat
  | (.string bytes, d) => bytes.length + uptoBulk d + 1
  | (_, d) => uptoBulk d + 1
 end
def uptoSmall : (H : Type) → List (DataW H) → Bool := fun _ ds => decide (uptoBulkAll ds ≤ 1048576)
def OpenSpec.upto (s : _root_.Go.ChangeSpec) : _root_.Go.OpenSpec := { _root_.Go.OpenSpec.ofChange s with cond := some uptoSmall }

/-- 'tartanlaw21.OrderWeaves', WHERE WHAT IT READS IS OF BULK AT MOST 1048576: true; the input reads as it did. -/
def orderWeavesUptoRow : OpenClaim := { program := "ythdfgkbfjpadbaa", sum := "4aefb81509b05fc3102acac8b92c1d2ad323c2630c10ba61f0486391ed8eecfe", func := "tartan/tartanlaw21.OrderWeaves", spec := "orderWeaves", unfollowed := true, recurses := true, apart := false, narrowed := true }
def OrderWeavesUptoSaid : Prop := orderWeavesUptoRow.holds Try.pinned (OpenSpec.upto orderWeavesSpec)

/-- 'tartanlaw21.OrderMerges', WHERE WHAT IT READS IS OF BULK AT MOST 1048576: true; the input reads as it did. -/
def orderMergesUptoRow : OpenClaim := { program := "ythdfgkbfjpadbaa", sum := "4aefb81509b05fc3102acac8b92c1d2ad323c2630c10ba61f0486391ed8eecfe", func := "tartan/tartanlaw21.OrderMerges", spec := "orderMerges", unfollowed := true, recurses := true, apart := false, narrowed := true }
def OrderMergesUptoSaid : Prop := orderMergesUptoRow.holds Try.pinned (OpenSpec.upto orderMergesSpec)

/-- 'tartanlaw21.OrderAll', WHERE WHAT IT READS IS OF BULK AT MOST 1048576: true; the input reads as it did. -/
def orderAllUptoRow : OpenClaim := { program := "ythdfgkbfjpadbaa", sum := "4aefb81509b05fc3102acac8b92c1d2ad323c2630c10ba61f0486391ed8eecfe", func := "tartan/tartanlaw21.OrderAll", spec := "orderAll", unfollowed := true, recurses := true, apart := false, narrowed := true }
def OrderAllUptoSaid : Prop := orderAllUptoRow.holds Try.pinned (OpenSpec.upto orderAllSpec)

/-- 'tartanlaw21.OrderKeeps', WHERE WHAT IT READS IS OF BULK AT MOST 1048576: true; the input reads as it did. -/
def orderKeepsUptoRow : OpenClaim := { program := "ythdfgkbfjpadbaa", sum := "4aefb81509b05fc3102acac8b92c1d2ad323c2630c10ba61f0486391ed8eecfe", func := "tartan/tartanlaw21.OrderKeeps", spec := "orderKeeps", unfollowed := true, recurses := true, apart := false, narrowed := true }
def OrderKeepsUptoSaid : Prop := orderKeepsUptoRow.holds Try.pinned (OpenSpec.upto orderKeepsSpec)

/-- 'tartanlaw21.OrderSides', WHERE WHAT IT READS IS OF BULK AT MOST 1048576: true; the input reads as it did. -/
def orderSidesUptoRow : OpenClaim := { program := "ythdfgkbfjpadbaa", sum := "4aefb81509b05fc3102acac8b92c1d2ad323c2630c10ba61f0486391ed8eecfe", func := "tartan/tartanlaw21.OrderSides", spec := "orderSides", unfollowed := true, recurses := true, apart := false, narrowed := true }
def OrderSidesUptoSaid : Prop := orderSidesUptoRow.holds Try.pinned (OpenSpec.upto orderSidesSpec)

end Rows
end Go.Proofs.Ythdfgkbfjpadbaa
