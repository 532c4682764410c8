/- PairsTurns: plain. -/
import Derived.Test.YtphmnjapjalfgaaX9
import Derived.Test.YtphmnjapjalfgaaPPairsOk
import Derived.Test.YtphmnjapjalfgaaROpen
namespace Go.Proofs.Ytphmnjapjalfgaa.X
open Go.RowKit Go.Proofs.YtphmnjapjalfgaaW.PrintWords
set_option linter.unusedVariables false
theorem pure_PairsTurns : ∀ (x0 : List PS) (x1 : List PS), okT22 x0 → okT22 x1 → ∃ k, tartanlaw06_PairsTurns.f k x0 x1 = some true := by
  intro x0 x1 o0 o1
  obtain ⟨k, hk⟩ := fuel6
  refine ⟨k + 30, ?_⟩
  unfold tartanlaw06_PairsTurns.f
  rw [works06, Option.bind_some, if_pos rfl]
  by_cases h0 : (x0.length : Int) > 60
  · rw [if_pos h0]; simp [tartanlaw06_PairsTurns.j0]
  · rw [if_neg h0]
    by_cases h1 : (x1.length : Int) > 60
    · rw [decide_eq_true h1]; simp [tartanlaw06_PairsTurns.j0]
    · have hb : x1.length * (x0.length + 3) ≤ 60 * 63 := Nat.mul_le_mul (by omega) (by omega)
      have ht := thr_le x0 x1
      rw [decide_eq_false h1]
      simp only [tartanlaw06_PairsTurns.j0]
      rw [if_neg (by decide), turn_some (by omega), Option.bind_some, refTurn_some (by omega) (by omega), Option.bind_some, refSame_some (by rw [turnR_len]; omega) (by rw [turnR_len]; omega), Option.bind_some,
        through_some (by omega) (by omega), Option.bind_some, refThrough_some (by omega) (by omega) (by omega), Option.bind_some, refSame_some (by omega) (by omega), Option.bind_some, if_pos trivial, if_pos (sameB_refl _), sameB_refl]
end Go.Proofs.Ytphmnjapjalfgaa.X
