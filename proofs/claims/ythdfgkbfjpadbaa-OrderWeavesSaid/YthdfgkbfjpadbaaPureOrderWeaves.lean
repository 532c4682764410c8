/- OrderWeaves: plain. -/
import Derived.Test.YthdfgkbfjpadbaaX7
import Derived.Test.YthdfgkbfjpadbaaPOrder
namespace Go.Proofs.Ythdfgkbfjpadbaa.Pure
open Go.RowKit Go.Proofs.Ythdfgkbfjpadbaa.X Go.Proofs.YthdfgkbfjpadbaaW.PrintWords Go.Proofs.YthdfgkbfjpadbaaW.PrintLast
set_option linter.unusedVariables false
theorem OrderWeaves : tartanlaw21_OrderWeaves.Pure := by
  intro l0 l1 _ _ w0 _ _ w1
  refine ⟨20000 + 60, ?_⟩
  unfold tartanlaw21_OrderWeaves.f
  rw [works21, Option.bind_some, if_pos rfl, few21, Option.bind_some]
  by_cases h : l0.length ≤ 40 ∧ l1.length ≤ 40
  · obtain ⟨h0, h1⟩ := h
    have e1 := onceR_len l0
    have e2 := (weaveR_ok l0 l1).2.2
    rw [decide_eq_true h0, decide_eq_true h1, if_pos (show (true && true) = true from rfl), once_some l0 (by omega) (by omega), Option.bind_some, refOnce_some l0 (by omega) (by omega), Option.bind_some, ints_some _ _ (by omega) (by omega), Option.bind_some,
      weave_some (by omega) (by omega) (wfL_of w0) (wfL_of w1), Option.bind_some, refWeave_some l0 l1 (by omega) (by omega) (by omega), Option.bind_some, ints_some _ _ (by omega) (by omega), Option.bind_some, decide_eq_true rfl, decide_eq_true rfl]
    rfl
  · rw [if_neg (by simpa using h)]
end Go.Proofs.Ythdfgkbfjpadbaa.Pure
