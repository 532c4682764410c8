/-
  No cell of these rows narrows 'for every input' (looked for: loops, veiled, ifaces, maps, wideKeys, modest, calm, conditions, laid).
  DERIVED. THE GIVEN ROWS OF THIS SEAT. 5 by the template 'for every input the law returns true; each argument reads behind the call as it read before'; 0 by the template 'total and deterministic' (their statements: YtoefeboikkhdkaaTotals.lean).
  GIVEN WITH THE SEED: the statements are not yours to turn. If you find one false, say at which input.
  Laid BY PROGRAM, IN A SANDBOX (cutbox-rows.mjs): the forced cells as the released guide's own fill.sh prints them over the translation c3abc22f4ea47d65… (all of the seat's roots in one cut). By AI agents, Wed Nov 11 2026. No macro, syntax, notation, axiom, sorry.
-/
import Derived.Test.YtoefeboikkhdkaaChecked
import GoSem.Claim
import GoSem.ClaimJoined
import GoSem.ClaimMapViews
import Derived.JoinedTies
import Derived.KernelRfl
namespace Go.Proofs.Ytoefeboikkhdkaa
/- THE CELL 'sum', in the pinned program and in every row, IS THE sha256 OF THE DUMP (.gsa) THAT YtoefeboikkhdkaaProg.lean LOADS. Nothing in Lean hashes anything: it is a label: what it is worth is what the hold of that sum in a sandbox is worth. -/
noncomputable def Try.pinned : Pinned := { name := "ytoefeboikkhdkaa", sum := "c3abc22f4ea47d65bf1b104521c559015dd26ce8299896df8a830fb3e38f529f", checked := Try.checked }
namespace Rows
def none {H : Type} : Left H := { results := [], args := [] }

/-- 'tartanlaw13.ColsAlign': WHATEVER THE INPUT: true; the input reads as it did. -/
def colsAlignSpec : ChangeSpec := { name := "colsAlign", fn := fun _ => fun
  | [d1, d2, d3] => { results := [.lit (.bool true)], args := [d1, d2, d3] }
  | _ => none }
def colsAlignRow : OpenClaim := { program := "ytoefeboikkhdkaa", sum := "c3abc22f4ea47d65bf1b104521c559015dd26ce8299896df8a830fb3e38f529f", func := "tartan/tartanlaw13.ColsAlign", spec := "colsAlign", unfollowed := true, recurses := true, apart := false }
def ColsAlignSaid : Prop := colsAlignRow.holds Try.pinned (OpenSpec.ofChange colsAlignSpec)

/-- ITS FALSE NEIGHBOUR: 'it returns false'. Refute it at one input. -/
def colsAlignWrong : ChangeSpec := { name := "colsAlign", fn := fun _ => fun
  | [d1, d2, d3] => { results := [.lit (.bool false)], args := [d1, d2, d3] }
  | _ => none }
def ColsAlignWrongFalsely : Prop := colsAlignRow.holds Try.pinned (OpenSpec.ofChange colsAlignWrong)

/-- 'tartanlaw13.ColsSame': WHATEVER THE INPUT: true; the input reads as it did. -/
def colsSameSpec : ChangeSpec := { name := "colsSame", fn := fun _ => fun
  | [d1, d2, d3] => { results := [.lit (.bool true)], args := [d1, d2, d3] }
  | _ => none }
def colsSameRow : OpenClaim := { program := "ytoefeboikkhdkaa", sum := "c3abc22f4ea47d65bf1b104521c559015dd26ce8299896df8a830fb3e38f529f", func := "tartan/tartanlaw13.ColsSame", spec := "colsSame", unfollowed := true, recurses := true, apart := false }
def ColsSameSaid : Prop := colsSameRow.holds Try.pinned (OpenSpec.ofChange colsSameSpec)

/-- ITS FALSE NEIGHBOUR: 'it returns false'. Refute it at one input. -/
def colsSameWrong : ChangeSpec := { name := "colsSame", fn := fun _ => fun
  | [d1, d2, d3] => { results := [.lit (.bool false)], args := [d1, d2, d3] }
  | _ => none }
def ColsSameWrongFalsely : Prop := colsSameRow.holds Try.pinned (OpenSpec.ofChange colsSameWrong)

/-- 'tartanlaw13.ColsOnce': WHATEVER THE INPUT: true; the input reads as it did. -/
def colsOnceSpec : ChangeSpec := { name := "colsOnce", fn := fun _ => fun
  | [d1, d2, d3] => { results := [.lit (.bool true)], args := [d1, d2, d3] }
  | _ => none }
def colsOnceRow : OpenClaim := { program := "ytoefeboikkhdkaa", sum := "c3abc22f4ea47d65bf1b104521c559015dd26ce8299896df8a830fb3e38f529f", func := "tartan/tartanlaw13.ColsOnce", spec := "colsOnce", unfollowed := true, recurses := true, apart := false }
def ColsOnceSaid : Prop := colsOnceRow.holds Try.pinned (OpenSpec.ofChange colsOnceSpec)

/-- ITS FALSE NEIGHBOUR: 'it returns false'. Refute it at one input. -/
def colsOnceWrong : ChangeSpec := { name := "colsOnce", fn := fun _ => fun
  | [d1, d2, d3] => { results := [.lit (.bool false)], args := [d1, d2, d3] }
  | _ => none }
def ColsOnceWrongFalsely : Prop := colsOnceRow.holds Try.pinned (OpenSpec.ofChange colsOnceWrong)

/-- 'tartanlaw13.ColsRenamed': WHATEVER THE INPUT: true; the input reads as it did. -/
def colsRenamedSpec : ChangeSpec := { name := "colsRenamed", fn := fun _ => fun
  | [d1, d2, d3, d4] => { results := [.lit (.bool true)], args := [d1, d2, d3, d4] }
  | _ => none }
def colsRenamedRow : OpenClaim := { program := "ytoefeboikkhdkaa", sum := "c3abc22f4ea47d65bf1b104521c559015dd26ce8299896df8a830fb3e38f529f", func := "tartan/tartanlaw13.ColsRenamed", spec := "colsRenamed", unfollowed := true, recurses := true, apart := false }
def ColsRenamedSaid : Prop := colsRenamedRow.holds Try.pinned (OpenSpec.ofChange colsRenamedSpec)

/-- ITS FALSE NEIGHBOUR: 'it returns false'. Refute it at one input. -/
def colsRenamedWrong : ChangeSpec := { name := "colsRenamed", fn := fun _ => fun
  | [d1, d2, d3, d4] => { results := [.lit (.bool false)], args := [d1, d2, d3, d4] }
  | _ => none }
def ColsRenamedWrongFalsely : Prop := colsRenamedRow.holds Try.pinned (OpenSpec.ofChange colsRenamedWrong)

/-- 'tartanlaw13.ColsMoved': WHATEVER THE INPUT: true; the input reads as it did. -/
def colsMovedSpec : ChangeSpec := { name := "colsMoved", fn := fun _ => fun
  | [d1, d2, d3, d4] => { results := [.lit (.bool true)], args := [d1, d2, d3, d4] }
  | _ => none }
def colsMovedRow : OpenClaim := { program := "ytoefeboikkhdkaa", sum := "c3abc22f4ea47d65bf1b104521c559015dd26ce8299896df8a830fb3e38f529f", func := "tartan/tartanlaw13.ColsMoved", spec := "colsMoved", inPlace := ["slices.overlaps[string]"], unfollowed := true, recurses := true, apart := false }
def ColsMovedSaid : Prop := colsMovedRow.holds Try.pinned (OpenSpec.ofChange colsMovedSpec)

/-- ITS FALSE NEIGHBOUR: 'it returns false'. Refute it at one input. -/
def colsMovedWrong : ChangeSpec := { name := "colsMoved", fn := fun _ => fun
  | [d1, d2, d3, d4] => { results := [.lit (.bool false)], args := [d1, d2, d3, d4] }
  | _ => none }
def ColsMovedWrongFalsely : Prop := colsMovedRow.holds Try.pinned (OpenSpec.ofChange colsMovedWrong)

/- THE SECOND FORM. 'bulk': how many values and letters a reading holds, each counted each time it is reached (what is shared counts as often as it is met; a slice's spare places count too). A statement '..UptoSaid' is the law's where the arguments, and the package variables that the reading takes, are together of bulk at most 1048576: NARROWER than '..Said'. Prove '..Said' where nothing that the law and all that it calls make is longer than what came in: it says more and counts as full. Else prove '..UptoSaid'. A law counts once. -/
mutual
def uptoBulk {H : Type} : DataW H → Nat
  | .lit (.string bytes) => bytes.length + 1
  | .lit _ => 1
  | .nil => 1
  | .ptr d => uptoBulk d + 1
  | .slice elems spare => uptoBulkAll elems + uptoBulkAll spare + 1
  | .agg parts => uptoBulkAll parts + 1
  | .iface _ d => uptoBulk d + 1
  | .map entries => uptoBulkEntries entries + 1
  | .held _ => 1
def uptoBulkAll {H : Type} : List (DataW H) → Nat
  | [] => 0
  | d :: r => uptoBulk d + uptoBulkAll r
def uptoBulkEntries {H : Type} : List (Lit × DataW H) → Nat
  | [] => 0
  | x :: r => uptoBulkEntry x + uptoBulkEntries r
def uptoBulkEntry {H : Type} : Lit × DataW H → Nat
  | (.string bytes, d) => bytes.length + uptoBulk d + 1
  | (_, d) => uptoBulk d + 1
 end
def uptoSmall : (H : Type) → List (DataW H) → Bool := fun _ ds => decide (uptoBulkAll ds ≤ 1048576)
def OpenSpec.upto (s : _root_.Go.ChangeSpec) : _root_.Go.OpenSpec := { _root_.Go.OpenSpec.ofChange s with cond := some uptoSmall }

/-- 'tartanlaw13.ColsAlign', WHERE WHAT IT READS IS OF BULK AT MOST 1048576: true; the input reads as it did. -/
def colsAlignUptoRow : OpenClaim := { program := "ytoefeboikkhdkaa", sum := "c3abc22f4ea47d65bf1b104521c559015dd26ce8299896df8a830fb3e38f529f", func := "tartan/tartanlaw13.ColsAlign", spec := "colsAlign", unfollowed := true, recurses := true, apart := false, narrowed := true }
def ColsAlignUptoSaid : Prop := colsAlignUptoRow.holds Try.pinned (OpenSpec.upto colsAlignSpec)

/-- 'tartanlaw13.ColsSame', WHERE WHAT IT READS IS OF BULK AT MOST 1048576: true; the input reads as it did. -/
def colsSameUptoRow : OpenClaim := { program := "ytoefeboikkhdkaa", sum := "c3abc22f4ea47d65bf1b104521c559015dd26ce8299896df8a830fb3e38f529f", func := "tartan/tartanlaw13.ColsSame", spec := "colsSame", unfollowed := true, recurses := true, apart := false, narrowed := true }
def ColsSameUptoSaid : Prop := colsSameUptoRow.holds Try.pinned (OpenSpec.upto colsSameSpec)

/-- 'tartanlaw13.ColsOnce', WHERE WHAT IT READS IS OF BULK AT MOST 1048576: true; the input reads as it did. -/
def colsOnceUptoRow : OpenClaim := { program := "ytoefeboikkhdkaa", sum := "c3abc22f4ea47d65bf1b104521c559015dd26ce8299896df8a830fb3e38f529f", func := "tartan/tartanlaw13.ColsOnce", spec := "colsOnce", unfollowed := true, recurses := true, apart := false, narrowed := true }
def ColsOnceUptoSaid : Prop := colsOnceUptoRow.holds Try.pinned (OpenSpec.upto colsOnceSpec)

/-- 'tartanlaw13.ColsRenamed', WHERE WHAT IT READS IS OF BULK AT MOST 1048576: true; the input reads as it did. -/
def colsRenamedUptoRow : OpenClaim := { program := "ytoefeboikkhdkaa", sum := "c3abc22f4ea47d65bf1b104521c559015dd26ce8299896df8a830fb3e38f529f", func := "tartan/tartanlaw13.ColsRenamed", spec := "colsRenamed", unfollowed := true, recurses := true, apart := false, narrowed := true }
def ColsRenamedUptoSaid : Prop := colsRenamedUptoRow.holds Try.pinned (OpenSpec.upto colsRenamedSpec)

/-- 'tartanlaw13.ColsMoved', WHERE WHAT IT READS IS OF BULK AT MOST 1048576: true; the input reads as it did. -/
def colsMovedUptoRow : OpenClaim := { program := "ytoefeboikkhdkaa", sum := "c3abc22f4ea47d65bf1b104521c559015dd26ce8299896df8a830fb3e38f529f", func := "tartan/tartanlaw13.ColsMoved", spec := "colsMoved", inPlace := ["slices.overlaps[string]"], unfollowed := true, recurses := true, apart := false, narrowed := true }
def ColsMovedUptoSaid : Prop := colsMovedUptoRow.holds Try.pinned (OpenSpec.upto colsMovedSpec)

end Rows
end Go.Proofs.Ytoefeboikkhdkaa
