/-
  No cell of these rows narrows 'for every input' (looked for: loops, veiled, ifaces, maps, wideKeys, modest, calm, conditions, laid).
  DERIVED. THE GIVEN ROWS OF THIS SEAT. 11 by the template 'for every input the law returns true; each argument reads behind the call as it read before'; 0 by the template 'total and deterministic' (their statements: YtphmnjapjalfgaaTotals.lean).
  GIVEN WITH THE SEED: the statements are not yours to turn. If you find one false, say at which input.
  Laid BY PROGRAM, IN A SANDBOX (cutbox-rows.mjs): the forced cells as the released guide's own fill.sh prints them over the translation ceded58d050c9d2f… (all of the seat's roots in one cut). By AI agents, Wed Nov 11 2026. No macro, syntax, notation, axiom, sorry.
-/
import Derived.Test.YtphmnjapjalfgaaChecked
import GoSem.Claim
import GoSem.ClaimJoined
import GoSem.ClaimMapViews
import Derived.JoinedTies
import Derived.KernelRfl
namespace Go.Proofs.Ytphmnjapjalfgaa
/- THE CELL 'sum', in the pinned program and in every row, IS THE sha256 OF THE DUMP (.gsa) THAT YtphmnjapjalfgaaProg.lean LOADS. Nothing in Lean hashes anything: it is a label: what it is worth is what the hold of that sum in a sandbox is worth. -/
noncomputable def Try.pinned : Pinned := { name := "ytphmnjapjalfgaa", sum := "ceded58d050c9d2f3bdf5c6cb1f1812f1ae089994278b051dd527e8a94851913", checked := Try.checked }
namespace Rows
def none {H : Type} : Left H := { results := [], args := [] }

/-- 'tartanlaw06.PairsChecks': WHATEVER THE INPUT: true; the input reads as it did. -/
def pairsChecksSpec : ChangeSpec := { name := "pairsChecks", fn := fun _ => fun
  | [d1, d2, d3, d4] => { results := [.lit (.bool true)], args := [d1, d2, d3, d4] }
  | _ => none }
def pairsChecksRow : OpenClaim := { program := "ytphmnjapjalfgaa", sum := "ceded58d050c9d2f3bdf5c6cb1f1812f1ae089994278b051dd527e8a94851913", func := "tartan/tartanlaw06.PairsChecks", spec := "pairsChecks", unfollowed := true, recurses := true, apart := false }
def PairsChecksSaid : Prop := pairsChecksRow.holds Try.pinned (OpenSpec.ofChange pairsChecksSpec)

/-- ITS FALSE NEIGHBOUR: 'it returns false'. Refute it at one input. -/
def pairsChecksWrong : ChangeSpec := { name := "pairsChecks", fn := fun _ => fun
  | [d1, d2, d3, d4] => { results := [.lit (.bool false)], args := [d1, d2, d3, d4] }
  | _ => none }
def PairsChecksWrongFalsely : Prop := pairsChecksRow.holds Try.pinned (OpenSpec.ofChange pairsChecksWrong)

/-- 'tartanlaw06.PairsTurns': WHATEVER THE INPUT: true; the input reads as it did. -/
def pairsTurnsSpec : ChangeSpec := { name := "pairsTurns", fn := fun _ => fun
  | [d1, d2] => { results := [.lit (.bool true)], args := [d1, d2] }
  | _ => none }
def pairsTurnsRow : OpenClaim := { program := "ytphmnjapjalfgaa", sum := "ceded58d050c9d2f3bdf5c6cb1f1812f1ae089994278b051dd527e8a94851913", func := "tartan/tartanlaw06.PairsTurns", spec := "pairsTurns", unfollowed := true, recurses := true, apart := false }
def PairsTurnsSaid : Prop := pairsTurnsRow.holds Try.pinned (OpenSpec.ofChange pairsTurnsSpec)

/-- ITS FALSE NEIGHBOUR: 'it returns false'. Refute it at one input. -/
def pairsTurnsWrong : ChangeSpec := { name := "pairsTurns", fn := fun _ => fun
  | [d1, d2] => { results := [.lit (.bool false)], args := [d1, d2] }
  | _ => none }
def PairsTurnsWrongFalsely : Prop := pairsTurnsRow.holds Try.pinned (OpenSpec.ofChange pairsTurnsWrong)

/-- 'tartanlaw06.PairsStill': WHATEVER THE INPUT: true; the input reads as it did. -/
def pairsStillSpec : ChangeSpec := { name := "pairsStill", fn := fun _ => fun
  | [d] => { results := [.lit (.bool true)], args := [d] }
  | _ => none }
def pairsStillRow : OpenClaim := { program := "ytphmnjapjalfgaa", sum := "ceded58d050c9d2f3bdf5c6cb1f1812f1ae089994278b051dd527e8a94851913", func := "tartan/tartanlaw06.PairsStill", spec := "pairsStill", unfollowed := true, recurses := true, apart := false }
def PairsStillSaid : Prop := pairsStillRow.holds Try.pinned (OpenSpec.ofChange pairsStillSpec)

/-- ITS FALSE NEIGHBOUR: 'it returns false'. Refute it at one input. -/
def pairsStillWrong : ChangeSpec := { name := "pairsStill", fn := fun _ => fun
  | [d] => { results := [.lit (.bool false)], args := [d] }
  | _ => none }
def PairsStillWrongFalsely : Prop := pairsStillRow.holds Try.pinned (OpenSpec.ofChange pairsStillWrong)

/-- 'tartanlaw06.PairsRests': WHATEVER THE INPUT: true; the input reads as it did. -/
def pairsRestsSpec : ChangeSpec := { name := "pairsRests", fn := fun _ => fun
  | [d1, d2, d3] => { results := [.lit (.bool true)], args := [d1, d2, d3] }
  | _ => none }
def pairsRestsRow : OpenClaim := { program := "ytphmnjapjalfgaa", sum := "ceded58d050c9d2f3bdf5c6cb1f1812f1ae089994278b051dd527e8a94851913", func := "tartan/tartanlaw06.PairsRests", spec := "pairsRests", unfollowed := true, recurses := true, apart := false }
def PairsRestsSaid : Prop := pairsRestsRow.holds Try.pinned (OpenSpec.ofChange pairsRestsSpec)

/-- ITS FALSE NEIGHBOUR: 'it returns false'. Refute it at one input. -/
def pairsRestsWrong : ChangeSpec := { name := "pairsRests", fn := fun _ => fun
  | [d1, d2, d3] => { results := [.lit (.bool false)], args := [d1, d2, d3] }
  | _ => none }
def PairsRestsWrongFalsely : Prop := pairsRestsRow.holds Try.pinned (OpenSpec.ofChange pairsRestsWrong)

/-- 'tartanlaw06.PairsBack': WHATEVER THE INPUT: true; the input reads as it did. -/
def pairsBackSpec : ChangeSpec := { name := "pairsBack", fn := fun _ => fun
  | [d1, d2, d3] => { results := [.lit (.bool true)], args := [d1, d2, d3] }
  | _ => none }
def pairsBackRow : OpenClaim := { program := "ytphmnjapjalfgaa", sum := "ceded58d050c9d2f3bdf5c6cb1f1812f1ae089994278b051dd527e8a94851913", func := "tartan/tartanlaw06.PairsBack", spec := "pairsBack", unfollowed := true, recurses := true, apart := false }
def PairsBackSaid : Prop := pairsBackRow.holds Try.pinned (OpenSpec.ofChange pairsBackSpec)

/-- ITS FALSE NEIGHBOUR: 'it returns false'. Refute it at one input. -/
def pairsBackWrong : ChangeSpec := { name := "pairsBack", fn := fun _ => fun
  | [d1, d2, d3] => { results := [.lit (.bool false)], args := [d1, d2, d3] }
  | _ => none }
def PairsBackWrongFalsely : Prop := pairsBackRow.holds Try.pinned (OpenSpec.ofChange pairsBackWrong)

/-- 'tartanlaw06.PairsLongest': WHATEVER THE INPUT: true; the input reads as it did. -/
def pairsLongestSpec : ChangeSpec := { name := "pairsLongest", fn := fun _ => fun
  | [d1, d2] => { results := [.lit (.bool true)], args := [d1, d2] }
  | _ => none }
def pairsLongestRow : OpenClaim := { program := "ytphmnjapjalfgaa", sum := "ceded58d050c9d2f3bdf5c6cb1f1812f1ae089994278b051dd527e8a94851913", func := "tartan/tartanlaw06.PairsLongest", spec := "pairsLongest", unfollowed := true, recurses := true, apart := false }
def PairsLongestSaid : Prop := pairsLongestRow.holds Try.pinned (OpenSpec.ofChange pairsLongestSpec)

/-- ITS FALSE NEIGHBOUR: 'it returns false'. Refute it at one input. -/
def pairsLongestWrong : ChangeSpec := { name := "pairsLongest", fn := fun _ => fun
  | [d1, d2] => { results := [.lit (.bool false)], args := [d1, d2] }
  | _ => none }
def PairsLongestWrongFalsely : Prop := pairsLongestRow.holds Try.pinned (OpenSpec.ofChange pairsLongestWrong)

/-- 'tartanlaw06.PairsThrough': WHATEVER THE INPUT: true; the input reads as it did. -/
def pairsThroughSpec : ChangeSpec := { name := "pairsThrough", fn := fun _ => fun
  | [d1, d2, d3, d4, d5] => { results := [.lit (.bool true)], args := [d1, d2, d3, d4, d5] }
  | _ => none }
def pairsThroughRow : OpenClaim := { program := "ytphmnjapjalfgaa", sum := "ceded58d050c9d2f3bdf5c6cb1f1812f1ae089994278b051dd527e8a94851913", func := "tartan/tartanlaw06.PairsThrough", spec := "pairsThrough", unfollowed := true, recurses := true, apart := false }
def PairsThroughSaid : Prop := pairsThroughRow.holds Try.pinned (OpenSpec.ofChange pairsThroughSpec)

/-- ITS FALSE NEIGHBOUR: 'it returns false'. Refute it at one input. -/
def pairsThroughWrong : ChangeSpec := { name := "pairsThrough", fn := fun _ => fun
  | [d1, d2, d3, d4, d5] => { results := [.lit (.bool false)], args := [d1, d2, d3, d4, d5] }
  | _ => none }
def PairsThroughWrongFalsely : Prop := pairsThroughRow.holds Try.pinned (OpenSpec.ofChange pairsThroughWrong)

/-- 'tartanlaw07.WeaveOrders': WHATEVER THE INPUT: true; the input reads as it did. -/
def weaveOrdersSpec : ChangeSpec := { name := "weaveOrders", fn := fun _ => fun
  | [d1, d2, d3] => { results := [.lit (.bool true)], args := [d1, d2, d3] }
  | _ => none }
def weaveOrdersRow : OpenClaim := { program := "ytphmnjapjalfgaa", sum := "ceded58d050c9d2f3bdf5c6cb1f1812f1ae089994278b051dd527e8a94851913", func := "tartan/tartanlaw07.WeaveOrders", spec := "weaveOrders", unfollowed := true, recurses := true, apart := false }
def WeaveOrdersSaid : Prop := weaveOrdersRow.holds Try.pinned (OpenSpec.ofChange weaveOrdersSpec)

/-- ITS FALSE NEIGHBOUR: 'it returns false'. Refute it at one input. -/
def weaveOrdersWrong : ChangeSpec := { name := "weaveOrders", fn := fun _ => fun
  | [d1, d2, d3] => { results := [.lit (.bool false)], args := [d1, d2, d3] }
  | _ => none }
def WeaveOrdersWrongFalsely : Prop := weaveOrdersRow.holds Try.pinned (OpenSpec.ofChange weaveOrdersWrong)

/-- 'tartanlaw07.WeaveRises': WHATEVER THE INPUT: true; the input reads as it did. -/
def weaveRisesSpec : ChangeSpec := { name := "weaveRises", fn := fun _ => fun
  | [d1, d2, d3] => { results := [.lit (.bool true)], args := [d1, d2, d3] }
  | _ => none }
def weaveRisesRow : OpenClaim := { program := "ytphmnjapjalfgaa", sum := "ceded58d050c9d2f3bdf5c6cb1f1812f1ae089994278b051dd527e8a94851913", func := "tartan/tartanlaw07.WeaveRises", spec := "weaveRises", unfollowed := true, recurses := true, apart := false }
def WeaveRisesSaid : Prop := weaveRisesRow.holds Try.pinned (OpenSpec.ofChange weaveRisesSpec)

/-- ITS FALSE NEIGHBOUR: 'it returns false'. Refute it at one input. -/
def weaveRisesWrong : ChangeSpec := { name := "weaveRises", fn := fun _ => fun
  | [d1, d2, d3] => { results := [.lit (.bool false)], args := [d1, d2, d3] }
  | _ => none }
def WeaveRisesWrongFalsely : Prop := weaveRisesRow.holds Try.pinned (OpenSpec.ofChange weaveRisesWrong)

/-- 'tartanlaw07.WeaveOwn': WHATEVER THE INPUT: true; the input reads as it did. -/
def weaveOwnSpec : ChangeSpec := { name := "weaveOwn", fn := fun _ => fun
  | [d1, d2] => { results := [.lit (.bool true)], args := [d1, d2] }
  | _ => none }
def weaveOwnRow : OpenClaim := { program := "ytphmnjapjalfgaa", sum := "ceded58d050c9d2f3bdf5c6cb1f1812f1ae089994278b051dd527e8a94851913", func := "tartan/tartanlaw07.WeaveOwn", spec := "weaveOwn", unfollowed := true, recurses := true, apart := false }
def WeaveOwnSaid : Prop := weaveOwnRow.holds Try.pinned (OpenSpec.ofChange weaveOwnSpec)

/-- ITS FALSE NEIGHBOUR: 'it returns false'. Refute it at one input. -/
def weaveOwnWrong : ChangeSpec := { name := "weaveOwn", fn := fun _ => fun
  | [d1, d2] => { results := [.lit (.bool false)], args := [d1, d2] }
  | _ => none }
def WeaveOwnWrongFalsely : Prop := weaveOwnRow.holds Try.pinned (OpenSpec.ofChange weaveOwnWrong)

/-- 'tartanlaw07.WeaveAll': WHATEVER THE INPUT: true; the input reads as it did. -/
def weaveAllSpec : ChangeSpec := { name := "weaveAll", fn := fun _ => fun
  | [d1, d2, d3] => { results := [.lit (.bool true)], args := [d1, d2, d3] }
  | _ => none }
def weaveAllRow : OpenClaim := { program := "ytphmnjapjalfgaa", sum := "ceded58d050c9d2f3bdf5c6cb1f1812f1ae089994278b051dd527e8a94851913", func := "tartan/tartanlaw07.WeaveAll", spec := "weaveAll", unfollowed := true, recurses := true, apart := false }
def WeaveAllSaid : Prop := weaveAllRow.holds Try.pinned (OpenSpec.ofChange weaveAllSpec)

/-- ITS FALSE NEIGHBOUR: 'it returns false'. Refute it at one input. -/
def weaveAllWrong : ChangeSpec := { name := "weaveAll", fn := fun _ => fun
  | [d1, d2, d3] => { results := [.lit (.bool false)], args := [d1, d2, d3] }
  | _ => none }
def WeaveAllWrongFalsely : Prop := weaveAllRow.holds Try.pinned (OpenSpec.ofChange weaveAllWrong)

/- THE SECOND FORM. 'bulk': how many values and letters a reading holds, each counted each time it is reached (what is shared counts as often as it is met; a slice's spare places count too). A statement '..UptoSaid' is the law's where the arguments, and the package variables that the reading takes, are together of bulk at most 1048576: NARROWER than '..Said'. Prove '..Said' where nothing that the law and all that it calls make is longer than what came in: it says more and counts as full. Else prove '..UptoSaid'. A law counts once. -/
mutual
def uptoBulk {H : Type} : DataW H → Nat
  | .lit (.string bytes) => bytes.length + 1
  | .lit _ => 1
  | .nil => 1
  | .ptr d => uptoBulk d + 1
  | .slice elems spare => uptoBulkAll elems + uptoBulkAll spare + 1
  | .agg parts => uptoBulkAll parts + 1
  | .iface _ d => uptoBulk d + 1
  | .map entries => uptoBulkEntries entries + 1
  | .held _ => 1
def uptoBulkAll {H : Type} : List (DataW H) → Nat
  | [] => 0
  | d :: r => uptoBulk d + uptoBulkAll r
def uptoBulkEntries {H : Type} : List (Lit × DataW H) → Nat
  | [] => 0
  | x :: r => uptoBulkEntry x + uptoBulkEntries r
def uptoBulkEntry {H : Type} : Lit × DataW H → Nat
  | (.string bytes, d) => bytes.length + uptoBulk d + 1
  | (_, d) => uptoBulk d + 1
 end
def uptoSmall : (H : Type) → List (DataW H) → Bool := fun _ ds => decide (uptoBulkAll ds ≤ 1048576)
def OpenSpec.upto (s : _root_.Go.ChangeSpec) : _root_.Go.OpenSpec := { _root_.Go.OpenSpec.ofChange s with cond := some uptoSmall }

/-- 'tartanlaw06.PairsChecks', WHERE WHAT IT READS IS OF BULK AT MOST 1048576: true; the input reads as it did. -/
def pairsChecksUptoRow : OpenClaim := { program := "ytphmnjapjalfgaa", sum := "ceded58d050c9d2f3bdf5c6cb1f1812f1ae089994278b051dd527e8a94851913", func := "tartan/tartanlaw06.PairsChecks", spec := "pairsChecks", unfollowed := true, recurses := true, apart := false, narrowed := true }
def PairsChecksUptoSaid : Prop := pairsChecksUptoRow.holds Try.pinned (OpenSpec.upto pairsChecksSpec)

/-- 'tartanlaw06.PairsTurns', WHERE WHAT IT READS IS OF BULK AT MOST 1048576: true; the input reads as it did. -/
def pairsTurnsUptoRow : OpenClaim := { program := "ytphmnjapjalfgaa", sum := "ceded58d050c9d2f3bdf5c6cb1f1812f1ae089994278b051dd527e8a94851913", func := "tartan/tartanlaw06.PairsTurns", spec := "pairsTurns", unfollowed := true, recurses := true, apart := false, narrowed := true }
def PairsTurnsUptoSaid : Prop := pairsTurnsUptoRow.holds Try.pinned (OpenSpec.upto pairsTurnsSpec)

/-- 'tartanlaw06.PairsStill', WHERE WHAT IT READS IS OF BULK AT MOST 1048576: true; the input reads as it did. -/
def pairsStillUptoRow : OpenClaim := { program := "ytphmnjapjalfgaa", sum := "ceded58d050c9d2f3bdf5c6cb1f1812f1ae089994278b051dd527e8a94851913", func := "tartan/tartanlaw06.PairsStill", spec := "pairsStill", unfollowed := true, recurses := true, apart := false, narrowed := true }
def PairsStillUptoSaid : Prop := pairsStillUptoRow.holds Try.pinned (OpenSpec.upto pairsStillSpec)

/-- 'tartanlaw06.PairsRests', WHERE WHAT IT READS IS OF BULK AT MOST 1048576: true; the input reads as it did. -/
def pairsRestsUptoRow : OpenClaim := { program := "ytphmnjapjalfgaa", sum := "ceded58d050c9d2f3bdf5c6cb1f1812f1ae089994278b051dd527e8a94851913", func := "tartan/tartanlaw06.PairsRests", spec := "pairsRests", unfollowed := true, recurses := true, apart := false, narrowed := true }
def PairsRestsUptoSaid : Prop := pairsRestsUptoRow.holds Try.pinned (OpenSpec.upto pairsRestsSpec)

/-- 'tartanlaw06.PairsBack', WHERE WHAT IT READS IS OF BULK AT MOST 1048576: true; the input reads as it did. -/
def pairsBackUptoRow : OpenClaim := { program := "ytphmnjapjalfgaa", sum := "ceded58d050c9d2f3bdf5c6cb1f1812f1ae089994278b051dd527e8a94851913", func := "tartan/tartanlaw06.PairsBack", spec := "pairsBack", unfollowed := true, recurses := true, apart := false, narrowed := true }
def PairsBackUptoSaid : Prop := pairsBackUptoRow.holds Try.pinned (OpenSpec.upto pairsBackSpec)

/-- 'tartanlaw06.PairsLongest', WHERE WHAT IT READS IS OF BULK AT MOST 1048576: true; the input reads as it did. -/
def pairsLongestUptoRow : OpenClaim := { program := "ytphmnjapjalfgaa", sum := "ceded58d050c9d2f3bdf5c6cb1f1812f1ae089994278b051dd527e8a94851913", func := "tartan/tartanlaw06.PairsLongest", spec := "pairsLongest", unfollowed := true, recurses := true, apart := false, narrowed := true }
def PairsLongestUptoSaid : Prop := pairsLongestUptoRow.holds Try.pinned (OpenSpec.upto pairsLongestSpec)

/-- 'tartanlaw06.PairsThrough', WHERE WHAT IT READS IS OF BULK AT MOST 1048576: true; the input reads as it did. -/
def pairsThroughUptoRow : OpenClaim := { program := "ytphmnjapjalfgaa", sum := "ceded58d050c9d2f3bdf5c6cb1f1812f1ae089994278b051dd527e8a94851913", func := "tartan/tartanlaw06.PairsThrough", spec := "pairsThrough", unfollowed := true, recurses := true, apart := false, narrowed := true }
def PairsThroughUptoSaid : Prop := pairsThroughUptoRow.holds Try.pinned (OpenSpec.upto pairsThroughSpec)

/-- 'tartanlaw07.WeaveOrders', WHERE WHAT IT READS IS OF BULK AT MOST 1048576: true; the input reads as it did. -/
def weaveOrdersUptoRow : OpenClaim := { program := "ytphmnjapjalfgaa", sum := "ceded58d050c9d2f3bdf5c6cb1f1812f1ae089994278b051dd527e8a94851913", func := "tartan/tartanlaw07.WeaveOrders", spec := "weaveOrders", unfollowed := true, recurses := true, apart := false, narrowed := true }
def WeaveOrdersUptoSaid : Prop := weaveOrdersUptoRow.holds Try.pinned (OpenSpec.upto weaveOrdersSpec)

/-- 'tartanlaw07.WeaveRises', WHERE WHAT IT READS IS OF BULK AT MOST 1048576: true; the input reads as it did. -/
def weaveRisesUptoRow : OpenClaim := { program := "ytphmnjapjalfgaa", sum := "ceded58d050c9d2f3bdf5c6cb1f1812f1ae089994278b051dd527e8a94851913", func := "tartan/tartanlaw07.WeaveRises", spec := "weaveRises", unfollowed := true, recurses := true, apart := false, narrowed := true }
def WeaveRisesUptoSaid : Prop := weaveRisesUptoRow.holds Try.pinned (OpenSpec.upto weaveRisesSpec)

/-- 'tartanlaw07.WeaveOwn', WHERE WHAT IT READS IS OF BULK AT MOST 1048576: true; the input reads as it did. -/
def weaveOwnUptoRow : OpenClaim := { program := "ytphmnjapjalfgaa", sum := "ceded58d050c9d2f3bdf5c6cb1f1812f1ae089994278b051dd527e8a94851913", func := "tartan/tartanlaw07.WeaveOwn", spec := "weaveOwn", unfollowed := true, recurses := true, apart := false, narrowed := true }
def WeaveOwnUptoSaid : Prop := weaveOwnUptoRow.holds Try.pinned (OpenSpec.upto weaveOwnSpec)

/-- 'tartanlaw07.WeaveAll', WHERE WHAT IT READS IS OF BULK AT MOST 1048576: true; the input reads as it did. -/
def weaveAllUptoRow : OpenClaim := { program := "ytphmnjapjalfgaa", sum := "ceded58d050c9d2f3bdf5c6cb1f1812f1ae089994278b051dd527e8a94851913", func := "tartan/tartanlaw07.WeaveAll", spec := "weaveAll", unfollowed := true, recurses := true, apart := false, narrowed := true }
def WeaveAllUptoSaid : Prop := weaveAllUptoRow.holds Try.pinned (OpenSpec.upto weaveAllSpec)

end Rows
end Go.Proofs.Ytphmnjapjalfgaa
