/-
  No cell of these rows narrows 'for every input' (looked for: loops, veiled, ifaces, maps, wideKeys, modest, calm, conditions, laid).
  DERIVED. THE GIVEN ROWS OF THIS SEAT. 10 by the template 'for every input the law returns true; each argument reads behind the call as it read before'; 0 by the template 'total and deterministic' (their statements: YtbcpaojciephmaaTotals.lean).
  GIVEN WITH THE SEED: the statements are not yours to turn. If you find one false, say at which input.
  Laid BY PROGRAM, IN A SANDBOX (cutbox-rows.mjs): the forced cells as the released guide's own fill.sh prints them over the translation 4ee7fee0eac99d7f… (all of the seat's roots in one cut). By AI agents, Wed Nov 11 2026. No macro, syntax, notation, axiom, sorry.
-/
import Derived.Test.YtbcpaojciephmaaChecked
import GoSem.Claim
import GoSem.ClaimJoined
import GoSem.ClaimMapViews
import Derived.JoinedTies
import Derived.KernelRfl
namespace Go.Proofs.Ytbcpaojciephmaa
/- THE CELL 'sum', in the pinned program and in every row, IS THE sha256 OF THE DUMP (.gsa) THAT YtbcpaojciephmaaProg.lean LOADS. Nothing in Lean hashes anything: it is a label: what it is worth is what the hold of that sum in a sandbox is worth. -/
noncomputable def Try.pinned : Pinned := { name := "ytbcpaojciephmaa", sum := "4ee7fee0eac99d7f2bfa169124a0d72d409df177b7dc3d1f9c78abb0bebdce88", checked := Try.checked }
namespace Rows
def none {H : Type} : Left H := { results := [], args := [] }

/-- 'tartanlaw11.KeysUnique': WHATEVER THE INPUT: true; the input reads as it did. -/
def keysUniqueSpec : ChangeSpec := { name := "keysUnique", fn := fun _ => fun
  | [d1, d2, d3] => { results := [.lit (.bool true)], args := [d1, d2, d3] }
  | _ => none }
def keysUniqueRow : OpenClaim := { program := "ytbcpaojciephmaa", sum := "4ee7fee0eac99d7f2bfa169124a0d72d409df177b7dc3d1f9c78abb0bebdce88", func := "tartan/tartanlaw11.KeysUnique", spec := "keysUnique", unfollowed := true, recurses := true, plainKeys := false, apart := false }
def KeysUniqueSaid : Prop := keysUniqueRow.holds Try.pinned (OpenSpec.ofChange keysUniqueSpec)

/-- ITS FALSE NEIGHBOUR: 'it returns false'. Refute it at one input. -/
def keysUniqueWrong : ChangeSpec := { name := "keysUnique", fn := fun _ => fun
  | [d1, d2, d3] => { results := [.lit (.bool false)], args := [d1, d2, d3] }
  | _ => none }
def KeysUniqueWrongFalsely : Prop := keysUniqueRow.holds Try.pinned (OpenSpec.ofChange keysUniqueWrong)

/-- 'tartanlaw11.KeysInfers': WHATEVER THE INPUT: true; the input reads as it did. -/
def keysInfersSpec : ChangeSpec := { name := "keysInfers", fn := fun _ => fun
  | [d1, d2] => { results := [.lit (.bool true)], args := [d1, d2] }
  | _ => none }
def keysInfersRow : OpenClaim := { program := "ytbcpaojciephmaa", sum := "4ee7fee0eac99d7f2bfa169124a0d72d409df177b7dc3d1f9c78abb0bebdce88", func := "tartan/tartanlaw11.KeysInfers", spec := "keysInfers", unfollowed := true, recurses := true, plainKeys := false, apart := false }
def KeysInfersSaid : Prop := keysInfersRow.holds Try.pinned (OpenSpec.ofChange keysInfersSpec)

/-- ITS FALSE NEIGHBOUR: 'it returns false'. Refute it at one input. -/
def keysInfersWrong : ChangeSpec := { name := "keysInfers", fn := fun _ => fun
  | [d1, d2] => { results := [.lit (.bool false)], args := [d1, d2] }
  | _ => none }
def KeysInfersWrongFalsely : Prop := keysInfersRow.holds Try.pinned (OpenSpec.ofChange keysInfersWrong)

/-- 'tartanlaw11.KeysMore': WHATEVER THE INPUT: true; the input reads as it did. -/
def keysMoreSpec : ChangeSpec := { name := "keysMore", fn := fun _ => fun
  | [d1, d2, d3] => { results := [.lit (.bool true)], args := [d1, d2, d3] }
  | _ => none }
def keysMoreRow : OpenClaim := { program := "ytbcpaojciephmaa", sum := "4ee7fee0eac99d7f2bfa169124a0d72d409df177b7dc3d1f9c78abb0bebdce88", func := "tartan/tartanlaw11.KeysMore", spec := "keysMore", unfollowed := true, recurses := true, plainKeys := false, apart := false }
def KeysMoreSaid : Prop := keysMoreRow.holds Try.pinned (OpenSpec.ofChange keysMoreSpec)

/-- ITS FALSE NEIGHBOUR: 'it returns false'. Refute it at one input. -/
def keysMoreWrong : ChangeSpec := { name := "keysMore", fn := fun _ => fun
  | [d1, d2, d3] => { results := [.lit (.bool false)], args := [d1, d2, d3] }
  | _ => none }
def KeysMoreWrongFalsely : Prop := keysMoreRow.holds Try.pinned (OpenSpec.ofChange keysMoreWrong)

/-- 'tartanlaw11.KeysLeast': WHATEVER THE INPUT: true; the input reads as it did. -/
def keysLeastSpec : ChangeSpec := { name := "keysLeast", fn := fun _ => fun
  | [d1, d2, d3] => { results := [.lit (.bool true)], args := [d1, d2, d3] }
  | _ => none }
def keysLeastRow : OpenClaim := { program := "ytbcpaojciephmaa", sum := "4ee7fee0eac99d7f2bfa169124a0d72d409df177b7dc3d1f9c78abb0bebdce88", func := "tartan/tartanlaw11.KeysLeast", spec := "keysLeast", unfollowed := true, recurses := true, plainKeys := false, apart := false }
def KeysLeastSaid : Prop := keysLeastRow.holds Try.pinned (OpenSpec.ofChange keysLeastSpec)

/-- ITS FALSE NEIGHBOUR: 'it returns false'. Refute it at one input. -/
def keysLeastWrong : ChangeSpec := { name := "keysLeast", fn := fun _ => fun
  | [d1, d2, d3] => { results := [.lit (.bool false)], args := [d1, d2, d3] }
  | _ => none }
def KeysLeastWrongFalsely : Prop := keysLeastRow.holds Try.pinned (OpenSpec.ofChange keysLeastWrong)

/-- 'tartanlaw11.KeysFewer': WHATEVER THE INPUT: true; the input reads as it did. -/
def keysFewerSpec : ChangeSpec := { name := "keysFewer", fn := fun _ => fun
  | [d1, d2, d3] => { results := [.lit (.bool true)], args := [d1, d2, d3] }
  | _ => none }
def keysFewerRow : OpenClaim := { program := "ytbcpaojciephmaa", sum := "4ee7fee0eac99d7f2bfa169124a0d72d409df177b7dc3d1f9c78abb0bebdce88", func := "tartan/tartanlaw11.KeysFewer", spec := "keysFewer", unfollowed := true, recurses := true, plainKeys := false, apart := false }
def KeysFewerSaid : Prop := keysFewerRow.holds Try.pinned (OpenSpec.ofChange keysFewerSpec)

/-- ITS FALSE NEIGHBOUR: 'it returns false'. Refute it at one input. -/
def keysFewerWrong : ChangeSpec := { name := "keysFewer", fn := fun _ => fun
  | [d1, d2, d3] => { results := [.lit (.bool false)], args := [d1, d2, d3] }
  | _ => none }
def KeysFewerWrongFalsely : Prop := keysFewerRow.holds Try.pinned (OpenSpec.ofChange keysFewerWrong)

/-- 'tartanlaw04.TableChecks': WHATEVER THE INPUT: true; the input reads as it did. -/
def tableChecksSpec : ChangeSpec := { name := "tableChecks", fn := fun _ => fun
  | [d1, d2] => { results := [.lit (.bool true)], args := [d1, d2] }
  | _ => none }
def tableChecksRow : OpenClaim := { program := "ytbcpaojciephmaa", sum := "4ee7fee0eac99d7f2bfa169124a0d72d409df177b7dc3d1f9c78abb0bebdce88", func := "tartan/tartanlaw04.TableChecks", spec := "tableChecks", unfollowed := true, recurses := true, plainKeys := false, apart := false }
def TableChecksSaid : Prop := tableChecksRow.holds Try.pinned (OpenSpec.ofChange tableChecksSpec)

/-- ITS FALSE NEIGHBOUR: 'it returns false'. Refute it at one input. -/
def tableChecksWrong : ChangeSpec := { name := "tableChecks", fn := fun _ => fun
  | [d1, d2] => { results := [.lit (.bool false)], args := [d1, d2] }
  | _ => none }
def TableChecksWrongFalsely : Prop := tableChecksRow.holds Try.pinned (OpenSpec.ofChange tableChecksWrong)

/-- 'tartanlaw04.TableTells': WHATEVER THE INPUT: true; the input reads as it did. -/
def tableTellsSpec : ChangeSpec := { name := "tableTells", fn := fun _ => fun
  | [d1, d2, d3, d4] => { results := [.lit (.bool true)], args := [d1, d2, d3, d4] }
  | _ => none }
def tableTellsRow : OpenClaim := { program := "ytbcpaojciephmaa", sum := "4ee7fee0eac99d7f2bfa169124a0d72d409df177b7dc3d1f9c78abb0bebdce88", func := "tartan/tartanlaw04.TableTells", spec := "tableTells", unfollowed := true, recurses := true, plainKeys := false, apart := false }
def TableTellsSaid : Prop := tableTellsRow.holds Try.pinned (OpenSpec.ofChange tableTellsSpec)

/-- ITS FALSE NEIGHBOUR: 'it returns false'. Refute it at one input. -/
def tableTellsWrong : ChangeSpec := { name := "tableTells", fn := fun _ => fun
  | [d1, d2, d3, d4] => { results := [.lit (.bool false)], args := [d1, d2, d3, d4] }
  | _ => none }
def TableTellsWrongFalsely : Prop := tableTellsRow.holds Try.pinned (OpenSpec.ofChange tableTellsWrong)

/-- 'tartanlaw04.TableOf': WHATEVER THE INPUT: true; the input reads as it did. -/
def tableOfSpec : ChangeSpec := { name := "tableOf", fn := fun _ => fun
  | [d] => { results := [.lit (.bool true)], args := [d] }
  | _ => none }
def tableOfRow : OpenClaim := { program := "ytbcpaojciephmaa", sum := "4ee7fee0eac99d7f2bfa169124a0d72d409df177b7dc3d1f9c78abb0bebdce88", func := "tartan/tartanlaw04.TableOf", spec := "tableOf", unfollowed := true, recurses := true, plainKeys := false, apart := false }
def TableOfSaid : Prop := tableOfRow.holds Try.pinned (OpenSpec.ofChange tableOfSpec)

/-- ITS FALSE NEIGHBOUR: 'it returns false'. Refute it at one input. -/
def tableOfWrong : ChangeSpec := { name := "tableOf", fn := fun _ => fun
  | [d] => { results := [.lit (.bool false)], args := [d] }
  | _ => none }
def TableOfWrongFalsely : Prop := tableOfRow.holds Try.pinned (OpenSpec.ofChange tableOfWrong)

/-- 'tartanlaw04.TableBack': WHATEVER THE INPUT: true; the input reads as it did. -/
def tableBackSpec : ChangeSpec := { name := "tableBack", fn := fun _ => fun
  | [d1, d2] => { results := [.lit (.bool true)], args := [d1, d2] }
  | _ => none }
def tableBackRow : OpenClaim := { program := "ytbcpaojciephmaa", sum := "4ee7fee0eac99d7f2bfa169124a0d72d409df177b7dc3d1f9c78abb0bebdce88", func := "tartan/tartanlaw04.TableBack", spec := "tableBack", unfollowed := true, recurses := true, plainKeys := false, apart := false }
def TableBackSaid : Prop := tableBackRow.holds Try.pinned (OpenSpec.ofChange tableBackSpec)

/-- ITS FALSE NEIGHBOUR: 'it returns false'. Refute it at one input. -/
def tableBackWrong : ChangeSpec := { name := "tableBack", fn := fun _ => fun
  | [d1, d2] => { results := [.lit (.bool false)], args := [d1, d2] }
  | _ => none }
def TableBackWrongFalsely : Prop := tableBackRow.holds Try.pinned (OpenSpec.ofChange tableBackWrong)

/-- 'tartanlaw04.TableNames': WHATEVER THE INPUT: true; the input reads as it did. -/
def tableNamesSpec : ChangeSpec := { name := "tableNames", fn := fun _ => fun
  | [d1, d2, d3] => { results := [.lit (.bool true)], args := [d1, d2, d3] }
  | _ => none }
def tableNamesRow : OpenClaim := { program := "ytbcpaojciephmaa", sum := "4ee7fee0eac99d7f2bfa169124a0d72d409df177b7dc3d1f9c78abb0bebdce88", func := "tartan/tartanlaw04.TableNames", spec := "tableNames", unfollowed := true, recurses := true, plainKeys := false, apart := false }
def TableNamesSaid : Prop := tableNamesRow.holds Try.pinned (OpenSpec.ofChange tableNamesSpec)

/-- ITS FALSE NEIGHBOUR: 'it returns false'. Refute it at one input. -/
def tableNamesWrong : ChangeSpec := { name := "tableNames", fn := fun _ => fun
  | [d1, d2, d3] => { results := [.lit (.bool false)], args := [d1, d2, d3] }
  | _ => none }
def TableNamesWrongFalsely : Prop := tableNamesRow.holds Try.pinned (OpenSpec.ofChange tableNamesWrong)

/- THE SECOND FORM. 'bulk': how many values and letters a reading holds, each counted each time it is reached (what is shared counts as often as it is met; a slice's spare places count too). A statement '..UptoSaid' is the law's where the arguments, and the package variables that the reading takes, are together of bulk at most 1048576: NARROWER than '..Said'. Prove '..Said' where nothing that the law and all that it calls make is longer than what came in: it says more and counts as full. Else prove '..UptoSaid'. A law counts once. -/
mutual
def uptoBulk {H : Type} : DataW H → Nat
  | .lit (.string bytes) => bytes.length + 1
  | .lit _ => 1
  | .nil => 1
  | .ptr d => uptoBulk d + 1
  | .slice elems spare => uptoBulkAll elems + uptoBulkAll spare + 1
  | .agg parts => uptoBulkAll parts + 1
  | .iface _ d => uptoBulk d + 1
  | .map entries => uptoBulkEntries entries + 1
  | .held _ => 1
def uptoBulkAll {H : Type} : List (DataW H) → Nat
  | [] => 0
  | d :: r => uptoBulk d + uptoBulkAll r
def uptoBulkEntries {H : Type} : List (Lit × DataW H) → Nat
  | [] => 0
  | x :: r => uptoBulkEntry x + uptoBulkEntries r
def uptoBulkEntry {H : Type} : Lit × DataW H → Nat
  | (.string bytes, d) => bytes.length + uptoBulk d + 1
  | (_, d) => uptoBulk d + 1
 end
def uptoSmall : (H : Type) → List (DataW H) → Bool := fun _ ds => decide (uptoBulkAll ds ≤ 1048576)
def OpenSpec.upto (s : _root_.Go.ChangeSpec) : _root_.Go.OpenSpec := { _root_.Go.OpenSpec.ofChange s with cond := some uptoSmall }

/-- 'tartanlaw11.KeysUnique', WHERE WHAT IT READS IS OF BULK AT MOST 1048576: true; the input reads as it did. -/
def keysUniqueUptoRow : OpenClaim := { program := "ytbcpaojciephmaa", sum := "4ee7fee0eac99d7f2bfa169124a0d72d409df177b7dc3d1f9c78abb0bebdce88", func := "tartan/tartanlaw11.KeysUnique", spec := "keysUnique", unfollowed := true, recurses := true, plainKeys := false, apart := false, narrowed := true }
def KeysUniqueUptoSaid : Prop := keysUniqueUptoRow.holds Try.pinned (OpenSpec.upto keysUniqueSpec)

/-- 'tartanlaw11.KeysInfers', WHERE WHAT IT READS IS OF BULK AT MOST 1048576: true; the input reads as it did. -/
def keysInfersUptoRow : OpenClaim := { program := "ytbcpaojciephmaa", sum := "4ee7fee0eac99d7f2bfa169124a0d72d409df177b7dc3d1f9c78abb0bebdce88", func := "tartan/tartanlaw11.KeysInfers", spec := "keysInfers", unfollowed := true, recurses := true, plainKeys := false, apart := false, narrowed := true }
def KeysInfersUptoSaid : Prop := keysInfersUptoRow.holds Try.pinned (OpenSpec.upto keysInfersSpec)

/-- 'tartanlaw11.KeysMore', WHERE WHAT IT READS IS OF BULK AT MOST 1048576: true; the input reads as it did. -/
def keysMoreUptoRow : OpenClaim := { program := "ytbcpaojciephmaa", sum := "4ee7fee0eac99d7f2bfa169124a0d72d409df177b7dc3d1f9c78abb0bebdce88", func := "tartan/tartanlaw11.KeysMore", spec := "keysMore", unfollowed := true, recurses := true, plainKeys := false, apart := false, narrowed := true }
def KeysMoreUptoSaid : Prop := keysMoreUptoRow.holds Try.pinned (OpenSpec.upto keysMoreSpec)

/-- 'tartanlaw11.KeysLeast', WHERE WHAT IT READS IS OF BULK AT MOST 1048576: true; the input reads as it did. -/
def keysLeastUptoRow : OpenClaim := { program := "ytbcpaojciephmaa", sum := "4ee7fee0eac99d7f2bfa169124a0d72d409df177b7dc3d1f9c78abb0bebdce88", func := "tartan/tartanlaw11.KeysLeast", spec := "keysLeast", unfollowed := true, recurses := true, plainKeys := false, apart := false, narrowed := true }
def KeysLeastUptoSaid : Prop := keysLeastUptoRow.holds Try.pinned (OpenSpec.upto keysLeastSpec)

/-- 'tartanlaw11.KeysFewer', WHERE WHAT IT READS IS OF BULK AT MOST 1048576: true; the input reads as it did. -/
def keysFewerUptoRow : OpenClaim := { program := "ytbcpaojciephmaa", sum := "4ee7fee0eac99d7f2bfa169124a0d72d409df177b7dc3d1f9c78abb0bebdce88", func := "tartan/tartanlaw11.KeysFewer", spec := "keysFewer", unfollowed := true, recurses := true, plainKeys := false, apart := false, narrowed := true }
def KeysFewerUptoSaid : Prop := keysFewerUptoRow.holds Try.pinned (OpenSpec.upto keysFewerSpec)

/-- 'tartanlaw04.TableChecks', WHERE WHAT IT READS IS OF BULK AT MOST 1048576: true; the input reads as it did. -/
def tableChecksUptoRow : OpenClaim := { program := "ytbcpaojciephmaa", sum := "4ee7fee0eac99d7f2bfa169124a0d72d409df177b7dc3d1f9c78abb0bebdce88", func := "tartan/tartanlaw04.TableChecks", spec := "tableChecks", unfollowed := true, recurses := true, plainKeys := false, apart := false, narrowed := true }
def TableChecksUptoSaid : Prop := tableChecksUptoRow.holds Try.pinned (OpenSpec.upto tableChecksSpec)

/-- 'tartanlaw04.TableTells', WHERE WHAT IT READS IS OF BULK AT MOST 1048576: true; the input reads as it did. -/
def tableTellsUptoRow : OpenClaim := { program := "ytbcpaojciephmaa", sum := "4ee7fee0eac99d7f2bfa169124a0d72d409df177b7dc3d1f9c78abb0bebdce88", func := "tartan/tartanlaw04.TableTells", spec := "tableTells", unfollowed := true, recurses := true, plainKeys := false, apart := false, narrowed := true }
def TableTellsUptoSaid : Prop := tableTellsUptoRow.holds Try.pinned (OpenSpec.upto tableTellsSpec)

/-- 'tartanlaw04.TableOf', WHERE WHAT IT READS IS OF BULK AT MOST 1048576: true; the input reads as it did. -/
def tableOfUptoRow : OpenClaim := { program := "ytbcpaojciephmaa", sum := "4ee7fee0eac99d7f2bfa169124a0d72d409df177b7dc3d1f9c78abb0bebdce88", func := "tartan/tartanlaw04.TableOf", spec := "tableOf", unfollowed := true, recurses := true, plainKeys := false, apart := false, narrowed := true }
def TableOfUptoSaid : Prop := tableOfUptoRow.holds Try.pinned (OpenSpec.upto tableOfSpec)

/-- 'tartanlaw04.TableBack', WHERE WHAT IT READS IS OF BULK AT MOST 1048576: true; the input reads as it did. -/
def tableBackUptoRow : OpenClaim := { program := "ytbcpaojciephmaa", sum := "4ee7fee0eac99d7f2bfa169124a0d72d409df177b7dc3d1f9c78abb0bebdce88", func := "tartan/tartanlaw04.TableBack", spec := "tableBack", unfollowed := true, recurses := true, plainKeys := false, apart := false, narrowed := true }
def TableBackUptoSaid : Prop := tableBackUptoRow.holds Try.pinned (OpenSpec.upto tableBackSpec)

/-- 'tartanlaw04.TableNames', WHERE WHAT IT READS IS OF BULK AT MOST 1048576: true; the input reads as it did. -/
def tableNamesUptoRow : OpenClaim := { program := "ytbcpaojciephmaa", sum := "4ee7fee0eac99d7f2bfa169124a0d72d409df177b7dc3d1f9c78abb0bebdce88", func := "tartan/tartanlaw04.TableNames", spec := "tableNames", unfollowed := true, recurses := true, plainKeys := false, apart := false, narrowed := true }
def TableNamesUptoSaid : Prop := tableNamesUptoRow.holds Try.pinned (OpenSpec.upto tableNamesSpec)

end Rows
end Go.Proofs.Ytbcpaojciephmaa
