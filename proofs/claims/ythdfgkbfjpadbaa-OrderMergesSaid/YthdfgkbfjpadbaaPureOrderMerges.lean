/- OrderMerges: plain. -/
import Derived.Test.YthdfgkbfjpadbaaX9
import Derived.Test.YthdfgkbfjpadbaaPOrder
namespace Go.Proofs.Ythdfgkbfjpadbaa.Pure
open Go.RowKit Go.Proofs.Ythdfgkbfjpadbaa.X Go.Proofs.YthdfgkbfjpadbaaW.PrintWords Go.Proofs.YthdfgkbfjpadbaaW.PrintLast
set_option linter.unusedVariables false
theorem OrderMerges : tartanlaw21_OrderMerges.Pure := by
  intro l0 l1 l2 l3 _ _ w0 _ _ w1 _ _ w2 _ _ w3
  refine ⟨20000 + 60, ?_⟩
  unfold tartanlaw21_OrderMerges.f
  rw [works21, Option.bind_some, if_pos rfl, few21, Option.bind_some]
  by_cases h : l0.length ≤ 40 ∧ l1.length ≤ 40
  · obtain ⟨h0, h1⟩ := h
    rw [decide_eq_true h0, decide_eq_true h1, if_pos (show (true && true) = true from rfl), few21, Option.bind_some]
    by_cases h' : l2.length ≤ 40 ∧ l3.length ≤ 40
    · obtain ⟨h2, h3⟩ := h'
      have e1 := (weaveR_ok l1 l2).2.2
      have e2 := (weaveR_ok l2 l1).2.2
      have e3 : (mergeR l0 l1 l2 l3).length ≤ 80 := by
        unfold mergeR keptR
        refine Nat.le_trans (List.length_filter_le _ _) ?_
        split <;> omega
      rw [decide_eq_true h2, decide_eq_true h3]
      show tartanlaw21_OrderMerges.j0 (20059 + 1) l0 l1 l2 l3 true false = _
      simp only [tartanlaw21_OrderMerges.j0]
      rw [if_neg (by decide), merge_some (by omega) (by omega) (by omega) (by omega) (wfL_of w1) (wfL_of w2), Option.bind_some, refMerge_some l0 l1 l2 l3 (by omega) (by omega) (by omega) (by omega) (by omega), Option.bind_some, ints_some _ _ (by omega) (by omega), Option.bind_some, decide_eq_true rfl]
      rfl
    · have e : (decide (l2.length ≤ 40) && decide (l3.length ≤ 40)) = false := by simpa using h'
      rw [e]
      rfl
  · rw [if_neg (by simpa using h)]
    rfl
end Go.Proofs.Ythdfgkbfjpadbaa.Pure
