/-
  No cell of these rows narrows 'for every input' (looked for: loops, veiled, ifaces, maps, wideKeys, modest, calm, conditions, laid).
  DERIVED. THE GIVEN ROWS OF THIS SEAT. 11 by the template 'for every input the law returns true; each argument reads behind the call as it read before'; 0 by the template 'total and deterministic' (their statements: YtchpgkojlhipgaaTotals.lean).
  GIVEN WITH THE SEED: the statements are not yours to turn. If you find one false, say at which input.
  Laid BY PROGRAM, IN A SANDBOX (cutbox-rows.mjs): the forced cells as the released guide's own fill.sh prints them over the translation e420cc44c624dadb… (all of the seat's roots in one cut). By AI agents, Wed Nov 11 2026. No macro, syntax, notation, axiom, sorry.
-/
import Derived.Test.YtchpgkojlhipgaaChecked
import GoSem.Claim
import GoSem.ClaimJoined
import GoSem.ClaimMapViews
import Derived.JoinedTies
import Derived.KernelRfl
namespace Go.Proofs.Ytchpgkojlhipgaa
/- THE CELL 'sum', in the pinned program and in every row, IS THE sha256 OF THE DUMP (.gsa) THAT YtchpgkojlhipgaaProg.lean LOADS. Nothing in Lean hashes anything: it is a label: what it is worth is what the hold of that sum in a sandbox is worth. -/
noncomputable def Try.pinned : Pinned := { name := "ytchpgkojlhipgaa", sum := "e420cc44c624dadbc09dc79b6d1017350b7350f439d5cb868e61b4004f4d1032", checked := Try.checked }
namespace Rows
def none {H : Type} : Left H := { results := [], args := [] }

/-- 'tartanlaw10.GreedyPicks': WHATEVER THE INPUT: true; the input reads as it did. -/
def greedyPicksSpec : ChangeSpec := { name := "greedyPicks", fn := fun _ => fun
  | [d1, d2, d3] => { results := [.lit (.bool true)], args := [d1, d2, d3] }
  | _ => none }
def greedyPicksRow : OpenClaim := { program := "ytchpgkojlhipgaa", sum := "e420cc44c624dadbc09dc79b6d1017350b7350f439d5cb868e61b4004f4d1032", func := "tartan/tartanlaw10.GreedyPicks", spec := "greedyPicks", unfollowed := true, recurses := true, plainKeys := false, apart := false }
def GreedyPicksSaid : Prop := greedyPicksRow.holds Try.pinned (OpenSpec.ofChange greedyPicksSpec)

/-- ITS FALSE NEIGHBOUR: 'it returns false'. Refute it at one input. -/
def greedyPicksWrong : ChangeSpec := { name := "greedyPicks", fn := fun _ => fun
  | [d1, d2, d3] => { results := [.lit (.bool false)], args := [d1, d2, d3] }
  | _ => none }
def GreedyPicksWrongFalsely : Prop := greedyPicksRow.holds Try.pinned (OpenSpec.ofChange greedyPicksWrong)

/-- 'tartanlaw10.GreedyOnce': WHATEVER THE INPUT: true; the input reads as it did. -/
def greedyOnceSpec : ChangeSpec := { name := "greedyOnce", fn := fun _ => fun
  | [d] => { results := [.lit (.bool true)], args := [d] }
  | _ => none }
def greedyOnceRow : OpenClaim := { program := "ytchpgkojlhipgaa", sum := "e420cc44c624dadbc09dc79b6d1017350b7350f439d5cb868e61b4004f4d1032", func := "tartan/tartanlaw10.GreedyOnce", spec := "greedyOnce", unfollowed := true, recurses := true, plainKeys := false, apart := false }
def GreedyOnceSaid : Prop := greedyOnceRow.holds Try.pinned (OpenSpec.ofChange greedyOnceSpec)

/-- ITS FALSE NEIGHBOUR: 'it returns false'. Refute it at one input. -/
def greedyOnceWrong : ChangeSpec := { name := "greedyOnce", fn := fun _ => fun
  | [d] => { results := [.lit (.bool false)], args := [d] }
  | _ => none }
def GreedyOnceWrongFalsely : Prop := greedyOnceRow.holds Try.pinned (OpenSpec.ofChange greedyOnceWrong)

/-- 'tartanlaw10.GreedyBest': WHATEVER THE INPUT: true; the input reads as it did. -/
def greedyBestSpec : ChangeSpec := { name := "greedyBest", fn := fun _ => fun
  | [d1, d2] => { results := [.lit (.bool true)], args := [d1, d2] }
  | _ => none }
def greedyBestRow : OpenClaim := { program := "ytchpgkojlhipgaa", sum := "e420cc44c624dadbc09dc79b6d1017350b7350f439d5cb868e61b4004f4d1032", func := "tartan/tartanlaw10.GreedyBest", spec := "greedyBest", unfollowed := true, recurses := true, plainKeys := false, apart := false }
def GreedyBestSaid : Prop := greedyBestRow.holds Try.pinned (OpenSpec.ofChange greedyBestSpec)

/-- ITS FALSE NEIGHBOUR: 'it returns false'. Refute it at one input. -/
def greedyBestWrong : ChangeSpec := { name := "greedyBest", fn := fun _ => fun
  | [d1, d2] => { results := [.lit (.bool false)], args := [d1, d2] }
  | _ => none }
def GreedyBestWrongFalsely : Prop := greedyBestRow.holds Try.pinned (OpenSpec.ofChange greedyBestWrong)

/-- 'tartanlaw10.GreedyTurns': WHATEVER THE INPUT: true; the input reads as it did. -/
def greedyTurnsSpec : ChangeSpec := { name := "greedyTurns", fn := fun _ => fun
  | [d1, d2] => { results := [.lit (.bool true)], args := [d1, d2] }
  | _ => none }
def greedyTurnsRow : OpenClaim := { program := "ytchpgkojlhipgaa", sum := "e420cc44c624dadbc09dc79b6d1017350b7350f439d5cb868e61b4004f4d1032", func := "tartan/tartanlaw10.GreedyTurns", spec := "greedyTurns", unfollowed := true, recurses := true, plainKeys := false, apart := false }
def GreedyTurnsSaid : Prop := greedyTurnsRow.holds Try.pinned (OpenSpec.ofChange greedyTurnsSpec)

/-- ITS FALSE NEIGHBOUR: 'it returns false'. Refute it at one input. -/
def greedyTurnsWrong : ChangeSpec := { name := "greedyTurns", fn := fun _ => fun
  | [d1, d2] => { results := [.lit (.bool false)], args := [d1, d2] }
  | _ => none }
def GreedyTurnsWrongFalsely : Prop := greedyTurnsRow.holds Try.pinned (OpenSpec.ofChange greedyTurnsWrong)

/-- 'tartanlaw10.GreedyOrder': WHATEVER THE INPUT: true; the input reads as it did. -/
def greedyOrderSpec : ChangeSpec := { name := "greedyOrder", fn := fun _ => fun
  | [d1, d2, d3] => { results := [.lit (.bool true)], args := [d1, d2, d3] }
  | _ => none }
def greedyOrderRow : OpenClaim := { program := "ytchpgkojlhipgaa", sum := "e420cc44c624dadbc09dc79b6d1017350b7350f439d5cb868e61b4004f4d1032", func := "tartan/tartanlaw10.GreedyOrder", spec := "greedyOrder", unfollowed := true, recurses := true, plainKeys := false, apart := false }
def GreedyOrderSaid : Prop := greedyOrderRow.holds Try.pinned (OpenSpec.ofChange greedyOrderSpec)

/-- ITS FALSE NEIGHBOUR: 'it returns false'. Refute it at one input. -/
def greedyOrderWrong : ChangeSpec := { name := "greedyOrder", fn := fun _ => fun
  | [d1, d2, d3] => { results := [.lit (.bool false)], args := [d1, d2, d3] }
  | _ => none }
def GreedyOrderWrongFalsely : Prop := greedyOrderRow.holds Try.pinned (OpenSpec.ofChange greedyOrderWrong)

/-- 'tartanlaw12.IndexBuilds': WHATEVER THE INPUT: true; the input reads as it did. -/
def indexBuildsSpec : ChangeSpec := { name := "indexBuilds", fn := fun _ => fun
  | [d1, d2, d3] => { results := [.lit (.bool true)], args := [d1, d2, d3] }
  | _ => none }
def indexBuildsRow : OpenClaim := { program := "ytchpgkojlhipgaa", sum := "e420cc44c624dadbc09dc79b6d1017350b7350f439d5cb868e61b4004f4d1032", func := "tartan/tartanlaw12.IndexBuilds", spec := "indexBuilds", unfollowed := true, recurses := true, plainKeys := false, apart := false }
def IndexBuildsSaid : Prop := indexBuildsRow.holds Try.pinned (OpenSpec.ofChange indexBuildsSpec)

/-- ITS FALSE NEIGHBOUR: 'it returns false'. Refute it at one input. -/
def indexBuildsWrong : ChangeSpec := { name := "indexBuilds", fn := fun _ => fun
  | [d1, d2, d3] => { results := [.lit (.bool false)], args := [d1, d2, d3] }
  | _ => none }
def IndexBuildsWrongFalsely : Prop := indexBuildsRow.holds Try.pinned (OpenSpec.ofChange indexBuildsWrong)

/-- 'tartanlaw12.IndexFinds': WHATEVER THE INPUT: true; the input reads as it did. -/
def indexFindsSpec : ChangeSpec := { name := "indexFinds", fn := fun _ => fun
  | [d1, d2, d3] => { results := [.lit (.bool true)], args := [d1, d2, d3] }
  | _ => none }
def indexFindsRow : OpenClaim := { program := "ytchpgkojlhipgaa", sum := "e420cc44c624dadbc09dc79b6d1017350b7350f439d5cb868e61b4004f4d1032", func := "tartan/tartanlaw12.IndexFinds", spec := "indexFinds", unfollowed := true, recurses := true, plainKeys := false, apart := false }
def IndexFindsSaid : Prop := indexFindsRow.holds Try.pinned (OpenSpec.ofChange indexFindsSpec)

/-- ITS FALSE NEIGHBOUR: 'it returns false'. Refute it at one input. -/
def indexFindsWrong : ChangeSpec := { name := "indexFinds", fn := fun _ => fun
  | [d1, d2, d3] => { results := [.lit (.bool false)], args := [d1, d2, d3] }
  | _ => none }
def IndexFindsWrongFalsely : Prop := indexFindsRow.holds Try.pinned (OpenSpec.ofChange indexFindsWrong)

/-- 'tartanlaw12.IndexSorted': WHATEVER THE INPUT: true; the input reads as it did. -/
def indexSortedSpec : ChangeSpec := { name := "indexSorted", fn := fun _ => fun
  | [d1, d2] => { results := [.lit (.bool true)], args := [d1, d2] }
  | _ => none }
def indexSortedRow : OpenClaim := { program := "ytchpgkojlhipgaa", sum := "e420cc44c624dadbc09dc79b6d1017350b7350f439d5cb868e61b4004f4d1032", func := "tartan/tartanlaw12.IndexSorted", spec := "indexSorted", unfollowed := true, recurses := true, plainKeys := false, apart := false }
def IndexSortedSaid : Prop := indexSortedRow.holds Try.pinned (OpenSpec.ofChange indexSortedSpec)

/-- ITS FALSE NEIGHBOUR: 'it returns false'. Refute it at one input. -/
def indexSortedWrong : ChangeSpec := { name := "indexSorted", fn := fun _ => fun
  | [d1, d2] => { results := [.lit (.bool false)], args := [d1, d2] }
  | _ => none }
def IndexSortedWrongFalsely : Prop := indexSortedRow.holds Try.pinned (OpenSpec.ofChange indexSortedWrong)

/-- 'tartanlaw12.IndexCompares': WHATEVER THE INPUT: true; the input reads as it did. -/
def indexComparesSpec : ChangeSpec := { name := "indexCompares", fn := fun _ => fun
  | [d1, d2, d3] => { results := [.lit (.bool true)], args := [d1, d2, d3] }
  | _ => none }
def indexComparesRow : OpenClaim := { program := "ytchpgkojlhipgaa", sum := "e420cc44c624dadbc09dc79b6d1017350b7350f439d5cb868e61b4004f4d1032", func := "tartan/tartanlaw12.IndexCompares", spec := "indexCompares", unfollowed := true, recurses := true, plainKeys := false, apart := false }
def IndexComparesSaid : Prop := indexComparesRow.holds Try.pinned (OpenSpec.ofChange indexComparesSpec)

/-- ITS FALSE NEIGHBOUR: 'it returns false'. Refute it at one input. -/
def indexComparesWrong : ChangeSpec := { name := "indexCompares", fn := fun _ => fun
  | [d1, d2, d3] => { results := [.lit (.bool false)], args := [d1, d2, d3] }
  | _ => none }
def IndexComparesWrongFalsely : Prop := indexComparesRow.holds Try.pinned (OpenSpec.ofChange indexComparesWrong)

/-- 'tartanlaw12.IndexAny': WHATEVER THE INPUT: true; the input reads as it did. -/
def indexAnySpec : ChangeSpec := { name := "indexAny", fn := fun _ => fun
  | [d1, d2, d3, d4] => { results := [.lit (.bool true)], args := [d1, d2, d3, d4] }
  | _ => none }
def indexAnyRow : OpenClaim := { program := "ytchpgkojlhipgaa", sum := "e420cc44c624dadbc09dc79b6d1017350b7350f439d5cb868e61b4004f4d1032", func := "tartan/tartanlaw12.IndexAny", spec := "indexAny", unfollowed := true, recurses := true, plainKeys := false, apart := false }
def IndexAnySaid : Prop := indexAnyRow.holds Try.pinned (OpenSpec.ofChange indexAnySpec)

/-- ITS FALSE NEIGHBOUR: 'it returns false'. Refute it at one input. -/
def indexAnyWrong : ChangeSpec := { name := "indexAny", fn := fun _ => fun
  | [d1, d2, d3, d4] => { results := [.lit (.bool false)], args := [d1, d2, d3, d4] }
  | _ => none }
def IndexAnyWrongFalsely : Prop := indexAnyRow.holds Try.pinned (OpenSpec.ofChange indexAnyWrong)

/-- 'tartanlaw12.IndexOwn': WHATEVER THE INPUT: true; the input reads as it did. -/
def indexOwnSpec : ChangeSpec := { name := "indexOwn", fn := fun _ => fun
  | [d1, d2, d3] => { results := [.lit (.bool true)], args := [d1, d2, d3] }
  | _ => none }
def indexOwnRow : OpenClaim := { program := "ytchpgkojlhipgaa", sum := "e420cc44c624dadbc09dc79b6d1017350b7350f439d5cb868e61b4004f4d1032", func := "tartan/tartanlaw12.IndexOwn", spec := "indexOwn", unfollowed := true, recurses := true, plainKeys := false, apart := false }
def IndexOwnSaid : Prop := indexOwnRow.holds Try.pinned (OpenSpec.ofChange indexOwnSpec)

/-- ITS FALSE NEIGHBOUR: 'it returns false'. Refute it at one input. -/
def indexOwnWrong : ChangeSpec := { name := "indexOwn", fn := fun _ => fun
  | [d1, d2, d3] => { results := [.lit (.bool false)], args := [d1, d2, d3] }
  | _ => none }
def IndexOwnWrongFalsely : Prop := indexOwnRow.holds Try.pinned (OpenSpec.ofChange indexOwnWrong)

/- THE SECOND FORM. 'bulk': how many values and letters a reading holds, each counted each time it is reached (what is shared counts as often as it is met; a slice's spare places count too). A statement '..UptoSaid' is the law's where the arguments, and the package variables that the reading takes, are together of bulk at most 1048576: NARROWER than '..Said'. Prove '..Said' where nothing that the law and all that it calls make is longer than what came in: it says more and counts as full. Else prove '..UptoSaid'. A law counts once. -/
mutual
def uptoBulk {H : Type} : DataW H → Nat
  | .lit (.string bytes) => bytes.length + 1
  | .lit _ => 1
  | .nil => 1
  | .ptr d => uptoBulk d + 1
  | .slice elems spare => uptoBulkAll elems + uptoBulkAll spare + 1
  | .agg parts => uptoBulkAll parts + 1
  | .iface _ d => uptoBulk d + 1
  | .map entries => uptoBulkEntries entries + 1
  | .held _ => 1
def uptoBulkAll {H : Type} : List (DataW H) → Nat
  | [] => 0
  | d :: r => uptoBulk d + uptoBulkAll r
def uptoBulkEntries {H : Type} : List (Lit × DataW H) → Nat
  | [] => 0
  | x :: r => uptoBulkEntry x + uptoBulkEntries r
def uptoBulkEntry {H : Type} : Lit × DataW H → Nat
  | (.string bytes, d) => bytes.length + uptoBulk d + 1
  | (_, d) => uptoBulk d + 1
 end
def uptoSmall : (H : Type) → List (DataW H) → Bool := fun _ ds => decide (uptoBulkAll ds ≤ 1048576)
def OpenSpec.upto (s : _root_.Go.ChangeSpec) : _root_.Go.OpenSpec := { _root_.Go.OpenSpec.ofChange s with cond := some uptoSmall }

/-- 'tartanlaw10.GreedyPicks', WHERE WHAT IT READS IS OF BULK AT MOST 1048576: true; the input reads as it did. -/
def greedyPicksUptoRow : OpenClaim := { program := "ytchpgkojlhipgaa", sum := "e420cc44c624dadbc09dc79b6d1017350b7350f439d5cb868e61b4004f4d1032", func := "tartan/tartanlaw10.GreedyPicks", spec := "greedyPicks", unfollowed := true, recurses := true, plainKeys := false, apart := false, narrowed := true }
def GreedyPicksUptoSaid : Prop := greedyPicksUptoRow.holds Try.pinned (OpenSpec.upto greedyPicksSpec)

/-- 'tartanlaw10.GreedyOnce', WHERE WHAT IT READS IS OF BULK AT MOST 1048576: true; the input reads as it did. -/
def greedyOnceUptoRow : OpenClaim := { program := "ytchpgkojlhipgaa", sum := "e420cc44c624dadbc09dc79b6d1017350b7350f439d5cb868e61b4004f4d1032", func := "tartan/tartanlaw10.GreedyOnce", spec := "greedyOnce", unfollowed := true, recurses := true, plainKeys := false, apart := false, narrowed := true }
def GreedyOnceUptoSaid : Prop := greedyOnceUptoRow.holds Try.pinned (OpenSpec.upto greedyOnceSpec)

/-- 'tartanlaw10.GreedyBest', WHERE WHAT IT READS IS OF BULK AT MOST 1048576: true; the input reads as it did. -/
def greedyBestUptoRow : OpenClaim := { program := "ytchpgkojlhipgaa", sum := "e420cc44c624dadbc09dc79b6d1017350b7350f439d5cb868e61b4004f4d1032", func := "tartan/tartanlaw10.GreedyBest", spec := "greedyBest", unfollowed := true, recurses := true, plainKeys := false, apart := false, narrowed := true }
def GreedyBestUptoSaid : Prop := greedyBestUptoRow.holds Try.pinned (OpenSpec.upto greedyBestSpec)

/-- 'tartanlaw10.GreedyTurns', WHERE WHAT IT READS IS OF BULK AT MOST 1048576: true; the input reads as it did. -/
def greedyTurnsUptoRow : OpenClaim := { program := "ytchpgkojlhipgaa", sum := "e420cc44c624dadbc09dc79b6d1017350b7350f439d5cb868e61b4004f4d1032", func := "tartan/tartanlaw10.GreedyTurns", spec := "greedyTurns", unfollowed := true, recurses := true, plainKeys := false, apart := false, narrowed := true }
def GreedyTurnsUptoSaid : Prop := greedyTurnsUptoRow.holds Try.pinned (OpenSpec.upto greedyTurnsSpec)

/-- 'tartanlaw10.GreedyOrder', WHERE WHAT IT READS IS OF BULK AT MOST 1048576: true; the input reads as it did. -/
def greedyOrderUptoRow : OpenClaim := { program := "ytchpgkojlhipgaa", sum := "e420cc44c624dadbc09dc79b6d1017350b7350f439d5cb868e61b4004f4d1032", func := "tartan/tartanlaw10.GreedyOrder", spec := "greedyOrder", unfollowed := true, recurses := true, plainKeys := false, apart := false, narrowed := true }
def GreedyOrderUptoSaid : Prop := greedyOrderUptoRow.holds Try.pinned (OpenSpec.upto greedyOrderSpec)

/-- 'tartanlaw12.IndexBuilds', WHERE WHAT IT READS IS OF BULK AT MOST 1048576: true; the input reads as it did. -/
def indexBuildsUptoRow : OpenClaim := { program := "ytchpgkojlhipgaa", sum := "e420cc44c624dadbc09dc79b6d1017350b7350f439d5cb868e61b4004f4d1032", func := "tartan/tartanlaw12.IndexBuilds", spec := "indexBuilds", unfollowed := true, recurses := true, plainKeys := false, apart := false, narrowed := true }
def IndexBuildsUptoSaid : Prop := indexBuildsUptoRow.holds Try.pinned (OpenSpec.upto indexBuildsSpec)

/-- 'tartanlaw12.IndexFinds', WHERE WHAT IT READS IS OF BULK AT MOST 1048576: true; the input reads as it did. -/
def indexFindsUptoRow : OpenClaim := { program := "ytchpgkojlhipgaa", sum := "e420cc44c624dadbc09dc79b6d1017350b7350f439d5cb868e61b4004f4d1032", func := "tartan/tartanlaw12.IndexFinds", spec := "indexFinds", unfollowed := true, recurses := true, plainKeys := false, apart := false, narrowed := true }
def IndexFindsUptoSaid : Prop := indexFindsUptoRow.holds Try.pinned (OpenSpec.upto indexFindsSpec)

/-- 'tartanlaw12.IndexSorted', WHERE WHAT IT READS IS OF BULK AT MOST 1048576: true; the input reads as it did. -/
def indexSortedUptoRow : OpenClaim := { program := "ytchpgkojlhipgaa", sum := "e420cc44c624dadbc09dc79b6d1017350b7350f439d5cb868e61b4004f4d1032", func := "tartan/tartanlaw12.IndexSorted", spec := "indexSorted", unfollowed := true, recurses := true, plainKeys := false, apart := false, narrowed := true }
def IndexSortedUptoSaid : Prop := indexSortedUptoRow.holds Try.pinned (OpenSpec.upto indexSortedSpec)

/-- 'tartanlaw12.IndexCompares', WHERE WHAT IT READS IS OF BULK AT MOST 1048576: true; the input reads as it did. -/
def indexComparesUptoRow : OpenClaim := { program := "ytchpgkojlhipgaa", sum := "e420cc44c624dadbc09dc79b6d1017350b7350f439d5cb868e61b4004f4d1032", func := "tartan/tartanlaw12.IndexCompares", spec := "indexCompares", unfollowed := true, recurses := true, plainKeys := false, apart := false, narrowed := true }
def IndexComparesUptoSaid : Prop := indexComparesUptoRow.holds Try.pinned (OpenSpec.upto indexComparesSpec)

/-- 'tartanlaw12.IndexAny', WHERE WHAT IT READS IS OF BULK AT MOST 1048576: true; the input reads as it did. -/
def indexAnyUptoRow : OpenClaim := { program := "ytchpgkojlhipgaa", sum := "e420cc44c624dadbc09dc79b6d1017350b7350f439d5cb868e61b4004f4d1032", func := "tartan/tartanlaw12.IndexAny", spec := "indexAny", unfollowed := true, recurses := true, plainKeys := false, apart := false, narrowed := true }
def IndexAnyUptoSaid : Prop := indexAnyUptoRow.holds Try.pinned (OpenSpec.upto indexAnySpec)

/-- 'tartanlaw12.IndexOwn', WHERE WHAT IT READS IS OF BULK AT MOST 1048576: true; the input reads as it did. -/
def indexOwnUptoRow : OpenClaim := { program := "ytchpgkojlhipgaa", sum := "e420cc44c624dadbc09dc79b6d1017350b7350f439d5cb868e61b4004f4d1032", func := "tartan/tartanlaw12.IndexOwn", spec := "indexOwn", unfollowed := true, recurses := true, plainKeys := false, apart := false, narrowed := true }
def IndexOwnUptoSaid : Prop := indexOwnUptoRow.holds Try.pinned (OpenSpec.upto indexOwnSpec)

end Rows
end Go.Proofs.Ytchpgkojlhipgaa
