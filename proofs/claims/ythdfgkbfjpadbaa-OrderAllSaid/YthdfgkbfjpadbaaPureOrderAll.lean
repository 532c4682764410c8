/- OrderAll: plain. -/
import Derived.Test.YthdfgkbfjpadbaaX9
import Derived.Test.YthdfgkbfjpadbaaPOrder
namespace Go.Proofs.Ythdfgkbfjpadbaa.Pure
open Go.RowKit Go.Proofs.Ythdfgkbfjpadbaa.X Go.Proofs.YthdfgkbfjpadbaaW.PrintWords Go.Proofs.YthdfgkbfjpadbaaW.PrintLast
set_option linter.unusedVariables false
theorem OrderAll : tartanlaw21_OrderAll.Pure := by
  intro l0 l1 a2 _ _ w0 _ _ w1 _
  refine ⟨20000 + 60, ?_⟩
  unfold tartanlaw21_OrderAll.f
  rw [works21, Option.bind_some, if_pos rfl, few21, Option.bind_some]
  by_cases h : l0.length ≤ 40 ∧ l1.length ≤ 40
  · obtain ⟨h0, h1⟩ := h
    obtain ⟨e1, e2, e3⟩ := weaveR_ok l0 l1
    have e4 : onceR (weaveR l0 l1) = weaveR l0 l1 := onceR_id e1
    rw [decide_eq_true h0, decide_eq_true h1, if_pos (show (true && true) = true from rfl), weave_some (by omega) (by omega) (wfL_of w0) (wfL_of w1), Option.bind_some, in_some _ _ (by omega) (by omega), Option.bind_some, in_some _ _ (by omega) (by omega), Option.bind_some]
    have hm := e2 a2
    by_cases m0 : a2 ∈ l0
    · rw [decide_eq_true m0, if_pos rfl, once_some _ (by omega) (by omega), Option.bind_some, e4, ints_some _ _ (by omega) (by omega), Option.bind_some, decide_eq_true (hm.2 (.inl m0)), decide_eq_true rfl]
      rfl
    · have e5 : decide (a2 ∈ weaveR l0 l1) = decide (a2 ∈ l1) := decide_eq_decide.2 ⟨fun h => (hm.1 h).resolve_left m0, fun h => hm.2 (.inr h)⟩
      rw [decide_eq_false m0, if_neg (by decide), in_some _ _ (by omega) (by omega), Option.bind_some, once_some _ (by omega) (by omega), Option.bind_some, e4, ints_some _ _ (by omega) (by omega), Option.bind_some, e5, decide_eq_true rfl, if_pos (by simp)]
  · rw [if_neg (by simpa using h)]
end Go.Proofs.Ythdfgkbfjpadbaa.Pure
