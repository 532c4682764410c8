/-
  No cell of these rows narrows 'for every input' (looked for: loops, veiled, ifaces, maps, wideKeys, modest, calm, conditions, laid).
  DERIVED. THE GIVEN ROWS OF THIS SEAT. 7 by the template 'for every input the law returns true; each argument reads behind the call as it read before'; 0 by the template 'total and deterministic' (their statements: YtaolakknkhggnaaTotals.lean).
  GIVEN WITH THE SEED: the statements are not yours to turn. If you find one false, say at which input.
  Laid BY PROGRAM, IN A SANDBOX (cutbox-rows.mjs): the forced cells as the released guide's own fill.sh prints them over the translation ebaef78d2a850dc1… (all of the seat's roots in one cut). By AI agents, Wed Nov 11 2026. No macro, syntax, notation, axiom, sorry.
-/
import Derived.Test.YtaolakknkhggnaaChecked
import GoSem.Claim
import GoSem.ClaimJoined
import GoSem.ClaimMapViews
import Derived.JoinedTies
import Derived.KernelRfl
namespace Go.Proofs.Ytaolakknkhggnaa
/- THE CELL 'sum', in the pinned program and in every row, IS THE sha256 OF THE DUMP (.gsa) THAT YtaolakknkhggnaaProg.lean LOADS. Nothing in Lean hashes anything: it is a label: what it is worth is what the hold of that sum in a sandbox is worth. -/
noncomputable def Try.pinned : Pinned := { name := "ytaolakknkhggnaa", sum := "ebaef78d2a850dc1d70a7abfdc9854bcf7a6fe95406970d24e854fc3193af101", checked := Try.checked }
namespace Rows
def none {H : Type} : Left H := { results := [], args := [] }

/-- 'tartanlaw05.EditCols': WHATEVER THE INPUT: true; the input reads as it did. -/
def editColsSpec : ChangeSpec := { name := "editCols", fn := fun _ => fun
  | [d1, d2] => { results := [.lit (.bool true)], args := [d1, d2] }
  | _ => none }
def editColsRow : OpenClaim := { program := "ytaolakknkhggnaa", sum := "ebaef78d2a850dc1d70a7abfdc9854bcf7a6fe95406970d24e854fc3193af101", func := "tartan/tartanlaw05.EditCols", spec := "editCols", inPlace := ["slices.overlaps[string]", "slices.overlaps[[]string]"], unfollowed := true, recurses := true, apart := false }
def EditColsSaid : Prop := editColsRow.holds Try.pinned (OpenSpec.ofChange editColsSpec)

/-- ITS FALSE NEIGHBOUR: 'it returns false'. Refute it at one input. -/
def editColsWrong : ChangeSpec := { name := "editCols", fn := fun _ => fun
  | [d1, d2] => { results := [.lit (.bool false)], args := [d1, d2] }
  | _ => none }
def EditColsWrongFalsely : Prop := editColsRow.holds Try.pinned (OpenSpec.ofChange editColsWrong)

/-- 'tartanlaw05.EditRows': WHATEVER THE INPUT: true; the input reads as it did. -/
def editRowsSpec : ChangeSpec := { name := "editRows", fn := fun _ => fun
  | [d1, d2] => { results := [.lit (.bool true)], args := [d1, d2] }
  | _ => none }
def editRowsRow : OpenClaim := { program := "ytaolakknkhggnaa", sum := "ebaef78d2a850dc1d70a7abfdc9854bcf7a6fe95406970d24e854fc3193af101", func := "tartan/tartanlaw05.EditRows", spec := "editRows", inPlace := ["slices.overlaps[string]", "slices.overlaps[[]string]"], unfollowed := true, recurses := true, apart := false }
def EditRowsSaid : Prop := editRowsRow.holds Try.pinned (OpenSpec.ofChange editRowsSpec)

/-- ITS FALSE NEIGHBOUR: 'it returns false'. Refute it at one input. -/
def editRowsWrong : ChangeSpec := { name := "editRows", fn := fun _ => fun
  | [d1, d2] => { results := [.lit (.bool false)], args := [d1, d2] }
  | _ => none }
def EditRowsWrongFalsely : Prop := editRowsRow.holds Try.pinned (OpenSpec.ofChange editRowsWrong)

/-- 'tartanlaw05.EditSets': WHATEVER THE INPUT: true; the input reads as it did. -/
def editSetsSpec : ChangeSpec := { name := "editSets", fn := fun _ => fun
  | [d1, d2, d3, d4, d5, d6] => { results := [.lit (.bool true)], args := [d1, d2, d3, d4, d5, d6] }
  | _ => none }
def editSetsRow : OpenClaim := { program := "ytaolakknkhggnaa", sum := "ebaef78d2a850dc1d70a7abfdc9854bcf7a6fe95406970d24e854fc3193af101", func := "tartan/tartanlaw05.EditSets", spec := "editSets", inPlace := ["slices.overlaps[string]", "slices.overlaps[[]string]"], unfollowed := true, recurses := true, apart := false }
def EditSetsSaid : Prop := editSetsRow.holds Try.pinned (OpenSpec.ofChange editSetsSpec)

/-- ITS FALSE NEIGHBOUR: 'it returns false'. Refute it at one input. -/
def editSetsWrong : ChangeSpec := { name := "editSets", fn := fun _ => fun
  | [d1, d2, d3, d4, d5, d6] => { results := [.lit (.bool false)], args := [d1, d2, d3, d4, d5, d6] }
  | _ => none }
def EditSetsWrongFalsely : Prop := editSetsRow.holds Try.pinned (OpenSpec.ofChange editSetsWrong)

/-- 'tartanlaw05.EditProject': WHATEVER THE INPUT: true; the input reads as it did. -/
def editProjectSpec : ChangeSpec := { name := "editProject", fn := fun _ => fun
  | [d1, d2, d3] => { results := [.lit (.bool true)], args := [d1, d2, d3] }
  | _ => none }
def editProjectRow : OpenClaim := { program := "ytaolakknkhggnaa", sum := "ebaef78d2a850dc1d70a7abfdc9854bcf7a6fe95406970d24e854fc3193af101", func := "tartan/tartanlaw05.EditProject", spec := "editProject", inPlace := ["slices.overlaps[string]", "slices.overlaps[[]string]"], unfollowed := true, recurses := true, apart := false }
def EditProjectSaid : Prop := editProjectRow.holds Try.pinned (OpenSpec.ofChange editProjectSpec)

/-- ITS FALSE NEIGHBOUR: 'it returns false'. Refute it at one input. -/
def editProjectWrong : ChangeSpec := { name := "editProject", fn := fun _ => fun
  | [d1, d2, d3] => { results := [.lit (.bool false)], args := [d1, d2, d3] }
  | _ => none }
def EditProjectWrongFalsely : Prop := editProjectRow.holds Try.pinned (OpenSpec.ofChange editProjectWrong)

/-- 'tartanlaw05.EditMoves': WHATEVER THE INPUT: true; the input reads as it did. -/
def editMovesSpec : ChangeSpec := { name := "editMoves", fn := fun _ => fun
  | [d1, d2, d3] => { results := [.lit (.bool true)], args := [d1, d2, d3] }
  | _ => none }
def editMovesRow : OpenClaim := { program := "ytaolakknkhggnaa", sum := "ebaef78d2a850dc1d70a7abfdc9854bcf7a6fe95406970d24e854fc3193af101", func := "tartan/tartanlaw05.EditMoves", spec := "editMoves", inPlace := ["slices.overlaps[string]", "slices.overlaps[[]string]"], unfollowed := true, recurses := true, apart := false }
def EditMovesSaid : Prop := editMovesRow.holds Try.pinned (OpenSpec.ofChange editMovesSpec)

/-- ITS FALSE NEIGHBOUR: 'it returns false'. Refute it at one input. -/
def editMovesWrong : ChangeSpec := { name := "editMoves", fn := fun _ => fun
  | [d1, d2, d3] => { results := [.lit (.bool false)], args := [d1, d2, d3] }
  | _ => none }
def EditMovesWrongFalsely : Prop := editMovesRow.holds Try.pinned (OpenSpec.ofChange editMovesWrong)

/-- 'tartanlaw05.EditEither': WHATEVER THE INPUT: true; the input reads as it did. -/
def editEitherSpec : ChangeSpec := { name := "editEither", fn := fun _ => fun
  | [d1, d2, d3] => { results := [.lit (.bool true)], args := [d1, d2, d3] }
  | _ => none }
def editEitherRow : OpenClaim := { program := "ytaolakknkhggnaa", sum := "ebaef78d2a850dc1d70a7abfdc9854bcf7a6fe95406970d24e854fc3193af101", func := "tartan/tartanlaw05.EditEither", spec := "editEither", inPlace := ["slices.overlaps[string]", "slices.overlaps[[]string]"], unfollowed := true, recurses := true, apart := false }
def EditEitherSaid : Prop := editEitherRow.holds Try.pinned (OpenSpec.ofChange editEitherSpec)

/-- ITS FALSE NEIGHBOUR: 'it returns false'. Refute it at one input. -/
def editEitherWrong : ChangeSpec := { name := "editEither", fn := fun _ => fun
  | [d1, d2, d3] => { results := [.lit (.bool false)], args := [d1, d2, d3] }
  | _ => none }
def EditEitherWrongFalsely : Prop := editEitherRow.holds Try.pinned (OpenSpec.ofChange editEitherWrong)

/-- 'tartanlaw05.EditBack': WHATEVER THE INPUT: true; the input reads as it did. -/
def editBackSpec : ChangeSpec := { name := "editBack", fn := fun _ => fun
  | [d1, d2, d3, d4, d5] => { results := [.lit (.bool true)], args := [d1, d2, d3, d4, d5] }
  | _ => none }
def editBackRow : OpenClaim := { program := "ytaolakknkhggnaa", sum := "ebaef78d2a850dc1d70a7abfdc9854bcf7a6fe95406970d24e854fc3193af101", func := "tartan/tartanlaw05.EditBack", spec := "editBack", inPlace := ["slices.overlaps[string]", "slices.overlaps[[]string]"], unfollowed := true, recurses := true, apart := false }
def EditBackSaid : Prop := editBackRow.holds Try.pinned (OpenSpec.ofChange editBackSpec)

/-- ITS FALSE NEIGHBOUR: 'it returns false'. Refute it at one input. -/
def editBackWrong : ChangeSpec := { name := "editBack", fn := fun _ => fun
  | [d1, d2, d3, d4, d5] => { results := [.lit (.bool false)], args := [d1, d2, d3, d4, d5] }
  | _ => none }
def EditBackWrongFalsely : Prop := editBackRow.holds Try.pinned (OpenSpec.ofChange editBackWrong)

/- THE SECOND FORM. 'bulk': how many values and letters a reading holds, each counted each time it is reached (what is shared counts as often as it is met; a slice's spare places count too). A statement '..UptoSaid' is the law's where the arguments, and the package variables that the reading takes, are together of bulk at most 1048576: NARROWER than '..Said'. Prove '..Said' where nothing that the law and all that it calls make is longer than what came in: it says more and counts as full. Else prove '..UptoSaid'. A law counts once. -/
mutual
def uptoBulk {H : Type} : DataW H → Nat
  | .lit (.string bytes) => bytes.length + 1
  | .lit _ => 1
  | .nil => 1
  | .ptr d => uptoBulk d + 1
  | .slice elems spare => uptoBulkAll elems + uptoBulkAll spare + 1
  | .agg parts => uptoBulkAll parts + 1
  | .iface _ d => uptoBulk d + 1
  | .map entries => uptoBulkEntries entries + 1
  | .held _ => 1
def uptoBulkAll {H : Type} : List (DataW H) → Nat
  | [] => 0
  | d :: r => uptoBulk d + uptoBulkAll r
def uptoBulkEntries {H : Type} : List (Lit × DataW H) → Nat
  | [] => 0
  | x :: r => uptoBulkEntry x + uptoBulkEntries r
def uptoBulkEntry {H : Type} : Lit × DataW H → Nat
  | (.string bytes, d) => bytes.length + uptoBulk d + 1
  | (_, d) => uptoBulk d + 1
 end
def uptoSmall : (H : Type) → List (DataW H) → Bool := fun _ ds => decide (uptoBulkAll ds ≤ 1048576)
def OpenSpec.upto (s : _root_.Go.ChangeSpec) : _root_.Go.OpenSpec := { _root_.Go.OpenSpec.ofChange s with cond := some uptoSmall }

/-- 'tartanlaw05.EditCols', WHERE WHAT IT READS IS OF BULK AT MOST 1048576: true; the input reads as it did. -/
def editColsUptoRow : OpenClaim := { program := "ytaolakknkhggnaa", sum := "ebaef78d2a850dc1d70a7abfdc9854bcf7a6fe95406970d24e854fc3193af101", func := "tartan/tartanlaw05.EditCols", spec := "editCols", inPlace := ["slices.overlaps[string]", "slices.overlaps[[]string]"], unfollowed := true, recurses := true, apart := false, narrowed := true }
def EditColsUptoSaid : Prop := editColsUptoRow.holds Try.pinned (OpenSpec.upto editColsSpec)

/-- 'tartanlaw05.EditRows', WHERE WHAT IT READS IS OF BULK AT MOST 1048576: true; the input reads as it did. -/
def editRowsUptoRow : OpenClaim := { program := "ytaolakknkhggnaa", sum := "ebaef78d2a850dc1d70a7abfdc9854bcf7a6fe95406970d24e854fc3193af101", func := "tartan/tartanlaw05.EditRows", spec := "editRows", inPlace := ["slices.overlaps[string]", "slices.overlaps[[]string]"], unfollowed := true, recurses := true, apart := false, narrowed := true }
def EditRowsUptoSaid : Prop := editRowsUptoRow.holds Try.pinned (OpenSpec.upto editRowsSpec)

/-- 'tartanlaw05.EditSets', WHERE WHAT IT READS IS OF BULK AT MOST 1048576: true; the input reads as it did. -/
def editSetsUptoRow : OpenClaim := { program := "ytaolakknkhggnaa", sum := "ebaef78d2a850dc1d70a7abfdc9854bcf7a6fe95406970d24e854fc3193af101", func := "tartan/tartanlaw05.EditSets", spec := "editSets", inPlace := ["slices.overlaps[string]", "slices.overlaps[[]string]"], unfollowed := true, recurses := true, apart := false, narrowed := true }
def EditSetsUptoSaid : Prop := editSetsUptoRow.holds Try.pinned (OpenSpec.upto editSetsSpec)

/-- 'tartanlaw05.EditProject', WHERE WHAT IT READS IS OF BULK AT MOST 1048576: true; the input reads as it did. -/
def editProjectUptoRow : OpenClaim := { program := "ytaolakknkhggnaa", sum := "ebaef78d2a850dc1d70a7abfdc9854bcf7a6fe95406970d24e854fc3193af101", func := "tartan/tartanlaw05.EditProject", spec := "editProject", inPlace := ["slices.overlaps[string]", "slices.overlaps[[]string]"], unfollowed := true, recurses := true, apart := false, narrowed := true }
def EditProjectUptoSaid : Prop := editProjectUptoRow.holds Try.pinned (OpenSpec.upto editProjectSpec)

/-- 'tartanlaw05.EditMoves', WHERE WHAT IT READS IS OF BULK AT MOST 1048576: true; the input reads as it did. -/
def editMovesUptoRow : OpenClaim := { program := "ytaolakknkhggnaa", sum := "ebaef78d2a850dc1d70a7abfdc9854bcf7a6fe95406970d24e854fc3193af101", func := "tartan/tartanlaw05.EditMoves", spec := "editMoves", inPlace := ["slices.overlaps[string]", "slices.overlaps[[]string]"], unfollowed := true, recurses := true, apart := false, narrowed := true }
def EditMovesUptoSaid : Prop := editMovesUptoRow.holds Try.pinned (OpenSpec.upto editMovesSpec)

/-- 'tartanlaw05.EditEither', WHERE WHAT IT READS IS OF BULK AT MOST 1048576: true; the input reads as it did. -/
def editEitherUptoRow : OpenClaim := { program := "ytaolakknkhggnaa", sum := "ebaef78d2a850dc1d70a7abfdc9854bcf7a6fe95406970d24e854fc3193af101", func := "tartan/tartanlaw05.EditEither", spec := "editEither", inPlace := ["slices.overlaps[string]", "slices.overlaps[[]string]"], unfollowed := true, recurses := true, apart := false, narrowed := true }
def EditEitherUptoSaid : Prop := editEitherUptoRow.holds Try.pinned (OpenSpec.upto editEitherSpec)

/-- 'tartanlaw05.EditBack', WHERE WHAT IT READS IS OF BULK AT MOST 1048576: true; the input reads as it did. -/
def editBackUptoRow : OpenClaim := { program := "ytaolakknkhggnaa", sum := "ebaef78d2a850dc1d70a7abfdc9854bcf7a6fe95406970d24e854fc3193af101", func := "tartan/tartanlaw05.EditBack", spec := "editBack", inPlace := ["slices.overlaps[string]", "slices.overlaps[[]string]"], unfollowed := true, recurses := true, apart := false, narrowed := true }
def EditBackUptoSaid : Prop := editBackUptoRow.holds Try.pinned (OpenSpec.upto editBackSpec)

end Rows
end Go.Proofs.Ytaolakknkhggnaa
