/- The guards of the laws of layer 10. -/
import Derived.Test.YtchpgkojlhipgaaPGreedy
import Derived.Test.YtchpgkojlhipgaaROpen
namespace Go.Proofs.Ytchpgkojlhipgaa.X
open Go.RowKit Go.Proofs.YtchpgkojlhipgaaW.PrintWords
theorem okC_of {l : List SC} (h : okT22 l) (hl : l.length ≤ 100000) : okC l = true := by
  unfold okC
  simp only [Bool.and_eq_true, decide_eq_true_eq, List.all_eq_true]
  exact ⟨hl, fun p hp => ⟨(h.2 p hp).1, (h.2 p hp).2.1⟩⟩
theorem fuel10 : ∃ k : Nat, 200000 ≤ k := ⟨200000, Nat.le_refl _⟩
end Go.Proofs.Ytchpgkojlhipgaa.X
