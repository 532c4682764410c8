/-
  No cell of these rows narrows 'for every input' (looked for: loops, veiled, ifaces, maps, wideKeys, modest, calm, conditions, laid).
  DERIVED. THE GIVEN ROWS OF THIS SEAT. 9 by the template 'for every input the law returns true; each argument reads behind the call as it read before'; 0 by the template 'total and deterministic' (their statements: YtimchoebiadhmaaTotals.lean).
  GIVEN WITH THE SEED: the statements are not yours to turn. If you find one false, say at which input.
  Laid BY PROGRAM, IN A SANDBOX (cutbox-rows.mjs): the forced cells as the released guide's own fill.sh prints them over the translation 2a26c37a4004074d… (all of the seat's roots in one cut). By AI agents, Wed Nov 11 2026. No macro, syntax, notation, axiom, sorry.
-/
import Derived.Test.YtimchoebiadhmaaChecked
import GoSem.Claim
import GoSem.ClaimJoined
import GoSem.ClaimMapViews
import Derived.JoinedTies
import Derived.KernelRfl
namespace Go.Proofs.Ytimchoebiadhmaa
/- THE CELL 'sum', in the pinned program and in every row, IS THE sha256 OF THE DUMP (.gsa) THAT YtimchoebiadhmaaProg.lean LOADS. Nothing in Lean hashes anything: it is a label: what it is worth is what the hold of that sum in a sandbox is worth. -/
noncomputable def Try.pinned : Pinned := { name := "ytimchoebiadhmaa", sum := "2a26c37a4004074da5566a6eddebddce8fdc6756c177cdb012c4d901726cc5ed", checked := Try.checked }
namespace Rows
def none {H : Type} : Left H := { results := [], args := [] }

/-- 'tartanlaw09.BagOverlaps': WHATEVER THE INPUT: true; the input reads as it did. -/
def bagOverlapsSpec : ChangeSpec := { name := "bagOverlaps", fn := fun _ => fun
  | [d1, d2, d3] => { results := [.lit (.bool true)], args := [d1, d2, d3] }
  | _ => none }
def bagOverlapsRow : OpenClaim := { program := "ytimchoebiadhmaa", sum := "2a26c37a4004074da5566a6eddebddce8fdc6756c177cdb012c4d901726cc5ed", func := "tartan/tartanlaw09.BagOverlaps", spec := "bagOverlaps", unfollowed := true, recurses := true, apart := false }
def BagOverlapsSaid : Prop := bagOverlapsRow.holds Try.pinned (OpenSpec.ofChange bagOverlapsSpec)

/-- ITS FALSE NEIGHBOUR: 'it returns false'. Refute it at one input. -/
def bagOverlapsWrong : ChangeSpec := { name := "bagOverlaps", fn := fun _ => fun
  | [d1, d2, d3] => { results := [.lit (.bool false)], args := [d1, d2, d3] }
  | _ => none }
def BagOverlapsWrongFalsely : Prop := bagOverlapsRow.holds Try.pinned (OpenSpec.ofChange bagOverlapsWrong)

/-- 'tartanlaw09.BagTurns': WHATEVER THE INPUT: true; the input reads as it did. -/
def bagTurnsSpec : ChangeSpec := { name := "bagTurns", fn := fun _ => fun
  | [d1, d2, d3] => { results := [.lit (.bool true)], args := [d1, d2, d3] }
  | _ => none }
def bagTurnsRow : OpenClaim := { program := "ytimchoebiadhmaa", sum := "2a26c37a4004074da5566a6eddebddce8fdc6756c177cdb012c4d901726cc5ed", func := "tartan/tartanlaw09.BagTurns", spec := "bagTurns", unfollowed := true, recurses := true, apart := false }
def BagTurnsSaid : Prop := bagTurnsRow.holds Try.pinned (OpenSpec.ofChange bagTurnsSpec)

/-- ITS FALSE NEIGHBOUR: 'it returns false'. Refute it at one input. -/
def bagTurnsWrong : ChangeSpec := { name := "bagTurns", fn := fun _ => fun
  | [d1, d2, d3] => { results := [.lit (.bool false)], args := [d1, d2, d3] }
  | _ => none }
def BagTurnsWrongFalsely : Prop := bagTurnsRow.holds Try.pinned (OpenSpec.ofChange bagTurnsWrong)

/-- 'tartanlaw09.BagAdds': WHATEVER THE INPUT: true; the input reads as it did. -/
def bagAddsSpec : ChangeSpec := { name := "bagAdds", fn := fun _ => fun
  | [d1, d2, d3] => { results := [.lit (.bool true)], args := [d1, d2, d3] }
  | _ => none }
def bagAddsRow : OpenClaim := { program := "ytimchoebiadhmaa", sum := "2a26c37a4004074da5566a6eddebddce8fdc6756c177cdb012c4d901726cc5ed", func := "tartan/tartanlaw09.BagAdds", spec := "bagAdds", unfollowed := true, recurses := true, apart := false }
def BagAddsSaid : Prop := bagAddsRow.holds Try.pinned (OpenSpec.ofChange bagAddsSpec)

/-- ITS FALSE NEIGHBOUR: 'it returns false'. Refute it at one input. -/
def bagAddsWrong : ChangeSpec := { name := "bagAdds", fn := fun _ => fun
  | [d1, d2, d3] => { results := [.lit (.bool false)], args := [d1, d2, d3] }
  | _ => none }
def BagAddsWrongFalsely : Prop := bagAddsRow.holds Try.pinned (OpenSpec.ofChange bagAddsWrong)

/-- 'tartanlaw09.BagCommon': WHATEVER THE INPUT: true; the input reads as it did. -/
def bagCommonSpec : ChangeSpec := { name := "bagCommon", fn := fun _ => fun
  | [d1, d2] => { results := [.lit (.bool true)], args := [d1, d2] }
  | _ => none }
def bagCommonRow : OpenClaim := { program := "ytimchoebiadhmaa", sum := "2a26c37a4004074da5566a6eddebddce8fdc6756c177cdb012c4d901726cc5ed", func := "tartan/tartanlaw09.BagCommon", spec := "bagCommon", unfollowed := true, recurses := true, apart := false }
def BagCommonSaid : Prop := bagCommonRow.holds Try.pinned (OpenSpec.ofChange bagCommonSpec)

/-- ITS FALSE NEIGHBOUR: 'it returns false'. Refute it at one input. -/
def bagCommonWrong : ChangeSpec := { name := "bagCommon", fn := fun _ => fun
  | [d1, d2] => { results := [.lit (.bool false)], args := [d1, d2] }
  | _ => none }
def BagCommonWrongFalsely : Prop := bagCommonRow.holds Try.pinned (OpenSpec.ofChange bagCommonWrong)

/-- 'tartanlaw08.LcsPairs': WHATEVER THE INPUT: true; the input reads as it did. -/
def lcsPairsSpec : ChangeSpec := { name := "lcsPairs", fn := fun _ => fun
  | [d1, d2] => { results := [.lit (.bool true)], args := [d1, d2] }
  | _ => none }
def lcsPairsRow : OpenClaim := { program := "ytimchoebiadhmaa", sum := "2a26c37a4004074da5566a6eddebddce8fdc6756c177cdb012c4d901726cc5ed", func := "tartan/tartanlaw08.LcsPairs", spec := "lcsPairs", unfollowed := true, recurses := true, apart := false }
def LcsPairsSaid : Prop := lcsPairsRow.holds Try.pinned (OpenSpec.ofChange lcsPairsSpec)

/-- ITS FALSE NEIGHBOUR: 'it returns false'. Refute it at one input. -/
def lcsPairsWrong : ChangeSpec := { name := "lcsPairs", fn := fun _ => fun
  | [d1, d2] => { results := [.lit (.bool false)], args := [d1, d2] }
  | _ => none }
def LcsPairsWrongFalsely : Prop := lcsPairsRow.holds Try.pinned (OpenSpec.ofChange lcsPairsWrong)

/-- 'tartanlaw08.LcsCommon': WHATEVER THE INPUT: true; the input reads as it did. -/
def lcsCommonSpec : ChangeSpec := { name := "lcsCommon", fn := fun _ => fun
  | [d1, d2] => { results := [.lit (.bool true)], args := [d1, d2] }
  | _ => none }
def lcsCommonRow : OpenClaim := { program := "ytimchoebiadhmaa", sum := "2a26c37a4004074da5566a6eddebddce8fdc6756c177cdb012c4d901726cc5ed", func := "tartan/tartanlaw08.LcsCommon", spec := "lcsCommon", unfollowed := true, recurses := true, apart := false }
def LcsCommonSaid : Prop := lcsCommonRow.holds Try.pinned (OpenSpec.ofChange lcsCommonSpec)

/-- ITS FALSE NEIGHBOUR: 'it returns false'. Refute it at one input. -/
def lcsCommonWrong : ChangeSpec := { name := "lcsCommon", fn := fun _ => fun
  | [d1, d2] => { results := [.lit (.bool false)], args := [d1, d2] }
  | _ => none }
def LcsCommonWrongFalsely : Prop := lcsCommonRow.holds Try.pinned (OpenSpec.ofChange lcsCommonWrong)

/-- 'tartanlaw08.LcsLongest': WHATEVER THE INPUT: true; the input reads as it did. -/
def lcsLongestSpec : ChangeSpec := { name := "lcsLongest", fn := fun _ => fun
  | [d1, d2, d3] => { results := [.lit (.bool true)], args := [d1, d2, d3] }
  | _ => none }
def lcsLongestRow : OpenClaim := { program := "ytimchoebiadhmaa", sum := "2a26c37a4004074da5566a6eddebddce8fdc6756c177cdb012c4d901726cc5ed", func := "tartan/tartanlaw08.LcsLongest", spec := "lcsLongest", unfollowed := true, recurses := true, apart := false }
def LcsLongestSaid : Prop := lcsLongestRow.holds Try.pinned (OpenSpec.ofChange lcsLongestSpec)

/-- ITS FALSE NEIGHBOUR: 'it returns false'. Refute it at one input. -/
def lcsLongestWrong : ChangeSpec := { name := "lcsLongest", fn := fun _ => fun
  | [d1, d2, d3] => { results := [.lit (.bool false)], args := [d1, d2, d3] }
  | _ => none }
def LcsLongestWrongFalsely : Prop := lcsLongestRow.holds Try.pinned (OpenSpec.ofChange lcsLongestWrong)

/-- 'tartanlaw08.LcsTurns': WHATEVER THE INPUT: true; the input reads as it did. -/
def lcsTurnsSpec : ChangeSpec := { name := "lcsTurns", fn := fun _ => fun
  | [d1, d2, d3] => { results := [.lit (.bool true)], args := [d1, d2, d3] }
  | _ => none }
def lcsTurnsRow : OpenClaim := { program := "ytimchoebiadhmaa", sum := "2a26c37a4004074da5566a6eddebddce8fdc6756c177cdb012c4d901726cc5ed", func := "tartan/tartanlaw08.LcsTurns", spec := "lcsTurns", unfollowed := true, recurses := true, apart := false }
def LcsTurnsSaid : Prop := lcsTurnsRow.holds Try.pinned (OpenSpec.ofChange lcsTurnsSpec)

/-- ITS FALSE NEIGHBOUR: 'it returns false'. Refute it at one input. -/
def lcsTurnsWrong : ChangeSpec := { name := "lcsTurns", fn := fun _ => fun
  | [d1, d2, d3] => { results := [.lit (.bool false)], args := [d1, d2, d3] }
  | _ => none }
def LcsTurnsWrongFalsely : Prop := lcsTurnsRow.holds Try.pinned (OpenSpec.ofChange lcsTurnsWrong)

/-- 'tartanlaw08.LcsSame': WHATEVER THE INPUT: true; the input reads as it did. -/
def lcsSameSpec : ChangeSpec := { name := "lcsSame", fn := fun _ => fun
  | [d1, d2] => { results := [.lit (.bool true)], args := [d1, d2] }
  | _ => none }
def lcsSameRow : OpenClaim := { program := "ytimchoebiadhmaa", sum := "2a26c37a4004074da5566a6eddebddce8fdc6756c177cdb012c4d901726cc5ed", func := "tartan/tartanlaw08.LcsSame", spec := "lcsSame", unfollowed := true, recurses := true, apart := false }
def LcsSameSaid : Prop := lcsSameRow.holds Try.pinned (OpenSpec.ofChange lcsSameSpec)

/-- ITS FALSE NEIGHBOUR: 'it returns false'. Refute it at one input. -/
def lcsSameWrong : ChangeSpec := { name := "lcsSame", fn := fun _ => fun
  | [d1, d2] => { results := [.lit (.bool false)], args := [d1, d2] }
  | _ => none }
def LcsSameWrongFalsely : Prop := lcsSameRow.holds Try.pinned (OpenSpec.ofChange lcsSameWrong)

/- THE SECOND FORM. 'bulk': how many values and letters a reading holds, each counted each time it is reached (what is shared counts as often as it is met; a slice's spare places count too). A statement '..UptoSaid' is the law's where the arguments, and the package variables that the reading takes, are together of bulk at most 1048576: NARROWER than '..Said'. Prove '..Said' where nothing that the law and all that it calls make is longer than what came in: it says more and counts as full. Else prove '..UptoSaid'. A law counts once. -/
mutual
def uptoBulk {H : Type} : DataW H → Nat
  | .lit (.string bytes) => bytes.length + 1
  | .lit _ => 1
  | .nil => 1
  | .ptr d => uptoBulk d + 1
  | .slice elems spare => uptoBulkAll elems + uptoBulkAll spare + 1
  | .agg parts => uptoBulkAll parts + 1
  | .iface _ d => uptoBulk d + 1
  | .map entries => uptoBulkEntries entries + 1
  | .held _ => 1
def uptoBulkAll {H : Type} : List (DataW H) → Nat
  | [] => 0
  | d :: r => uptoBulk d + uptoBulkAll r
def uptoBulkEntries {H : Type} : List (Lit × DataW H) → Nat
  | [] => 0
  | x :: r => uptoBulkEntry x + uptoBulkEntries r
def uptoBulkEntry {H : Type} : Lit × DataW H → Nat
  | (.string bytes, d) => bytes.length + uptoBulk d + 1
  | (_, d) => uptoBulk d + 1
 end
def uptoSmall : (H : Type) → List (DataW H) → Bool := fun _ ds => decide (uptoBulkAll ds ≤ 1048576)
def OpenSpec.upto (s : _root_.Go.ChangeSpec) : _root_.Go.OpenSpec := { _root_.Go.OpenSpec.ofChange s with cond := some uptoSmall }

/-- 'tartanlaw09.BagOverlaps', WHERE WHAT IT READS IS OF BULK AT MOST 1048576: true; the input reads as it did. -/
def bagOverlapsUptoRow : OpenClaim := { program := "ytimchoebiadhmaa", sum := "2a26c37a4004074da5566a6eddebddce8fdc6756c177cdb012c4d901726cc5ed", func := "tartan/tartanlaw09.BagOverlaps", spec := "bagOverlaps", unfollowed := true, recurses := true, apart := false, narrowed := true }
def BagOverlapsUptoSaid : Prop := bagOverlapsUptoRow.holds Try.pinned (OpenSpec.upto bagOverlapsSpec)

/-- 'tartanlaw09.BagTurns', WHERE WHAT IT READS IS OF BULK AT MOST 1048576: true; the input reads as it did. -/
def bagTurnsUptoRow : OpenClaim := { program := "ytimchoebiadhmaa", sum := "2a26c37a4004074da5566a6eddebddce8fdc6756c177cdb012c4d901726cc5ed", func := "tartan/tartanlaw09.BagTurns", spec := "bagTurns", unfollowed := true, recurses := true, apart := false, narrowed := true }
def BagTurnsUptoSaid : Prop := bagTurnsUptoRow.holds Try.pinned (OpenSpec.upto bagTurnsSpec)

/-- 'tartanlaw09.BagAdds', WHERE WHAT IT READS IS OF BULK AT MOST 1048576: true; the input reads as it did. -/
def bagAddsUptoRow : OpenClaim := { program := "ytimchoebiadhmaa", sum := "2a26c37a4004074da5566a6eddebddce8fdc6756c177cdb012c4d901726cc5ed", func := "tartan/tartanlaw09.BagAdds", spec := "bagAdds", unfollowed := true, recurses := true, apart := false, narrowed := true }
def BagAddsUptoSaid : Prop := bagAddsUptoRow.holds Try.pinned (OpenSpec.upto bagAddsSpec)

/-- 'tartanlaw09.BagCommon', WHERE WHAT IT READS IS OF BULK AT MOST 1048576: true; the input reads as it did. -/
def bagCommonUptoRow : OpenClaim := { program := "ytimchoebiadhmaa", sum := "2a26c37a4004074da5566a6eddebddce8fdc6756c177cdb012c4d901726cc5ed", func := "tartan/tartanlaw09.BagCommon", spec := "bagCommon", unfollowed := true, recurses := true, apart := false, narrowed := true }
def BagCommonUptoSaid : Prop := bagCommonUptoRow.holds Try.pinned (OpenSpec.upto bagCommonSpec)

/-- 'tartanlaw08.LcsPairs', WHERE WHAT IT READS IS OF BULK AT MOST 1048576: true; the input reads as it did. -/
def lcsPairsUptoRow : OpenClaim := { program := "ytimchoebiadhmaa", sum := "2a26c37a4004074da5566a6eddebddce8fdc6756c177cdb012c4d901726cc5ed", func := "tartan/tartanlaw08.LcsPairs", spec := "lcsPairs", unfollowed := true, recurses := true, apart := false, narrowed := true }
def LcsPairsUptoSaid : Prop := lcsPairsUptoRow.holds Try.pinned (OpenSpec.upto lcsPairsSpec)

/-- 'tartanlaw08.LcsCommon', WHERE WHAT IT READS IS OF BULK AT MOST 1048576: true; the input reads as it did. -/
def lcsCommonUptoRow : OpenClaim := { program := "ytimchoebiadhmaa", sum := "2a26c37a4004074da5566a6eddebddce8fdc6756c177cdb012c4d901726cc5ed", func := "tartan/tartanlaw08.LcsCommon", spec := "lcsCommon", unfollowed := true, recurses := true, apart := false, narrowed := true }
def LcsCommonUptoSaid : Prop := lcsCommonUptoRow.holds Try.pinned (OpenSpec.upto lcsCommonSpec)

/-- 'tartanlaw08.LcsLongest', WHERE WHAT IT READS IS OF BULK AT MOST 1048576: true; the input reads as it did. -/
def lcsLongestUptoRow : OpenClaim := { program := "ytimchoebiadhmaa", sum := "2a26c37a4004074da5566a6eddebddce8fdc6756c177cdb012c4d901726cc5ed", func := "tartan/tartanlaw08.LcsLongest", spec := "lcsLongest", unfollowed := true, recurses := true, apart := false, narrowed := true }
def LcsLongestUptoSaid : Prop := lcsLongestUptoRow.holds Try.pinned (OpenSpec.upto lcsLongestSpec)

/-- 'tartanlaw08.LcsTurns', WHERE WHAT IT READS IS OF BULK AT MOST 1048576: true; the input reads as it did. -/
def lcsTurnsUptoRow : OpenClaim := { program := "ytimchoebiadhmaa", sum := "2a26c37a4004074da5566a6eddebddce8fdc6756c177cdb012c4d901726cc5ed", func := "tartan/tartanlaw08.LcsTurns", spec := "lcsTurns", unfollowed := true, recurses := true, apart := false, narrowed := true }
def LcsTurnsUptoSaid : Prop := lcsTurnsUptoRow.holds Try.pinned (OpenSpec.upto lcsTurnsSpec)

/-- 'tartanlaw08.LcsSame', WHERE WHAT IT READS IS OF BULK AT MOST 1048576: true; the input reads as it did. -/
def lcsSameUptoRow : OpenClaim := { program := "ytimchoebiadhmaa", sum := "2a26c37a4004074da5566a6eddebddce8fdc6756c177cdb012c4d901726cc5ed", func := "tartan/tartanlaw08.LcsSame", spec := "lcsSame", unfollowed := true, recurses := true, apart := false, narrowed := true }
def LcsSameUptoSaid : Prop := lcsSameUptoRow.holds Try.pinned (OpenSpec.upto lcsSameSpec)

end Rows
end Go.Proofs.Ytimchoebiadhmaa
