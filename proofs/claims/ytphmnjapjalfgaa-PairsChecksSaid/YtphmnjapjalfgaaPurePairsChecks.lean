/- PairsChecks: plain. -/
import Derived.Test.YtphmnjapjalfgaaX6
import Derived.Test.YtphmnjapjalfgaaPPairsOk
import Derived.Test.YtphmnjapjalfgaaROpen
namespace Go.Proofs.Ytphmnjapjalfgaa.X
open Go.RowKit Go.Proofs.YtphmnjapjalfgaaW.PrintWords
set_option linter.unusedVariables false
theorem pure_PairsChecks : ∀ (x0 : List PS) (x1 : List PS) (x2 : Int) (x3 : Int), okT22 x0 → okT22 x1 → okT3 x2 → okT3 x3 → ∃ k, tartanlaw06_PairsChecks.f k x0 x1 x2 x3 = some true := by
  intro x0 x1 x2 x3 o0 o1 o2 o3
  obtain ⟨k, hk⟩ := fuel6
  refine ⟨k + 30, ?_⟩
  unfold tartanlaw06_PairsChecks.f
  rw [works06, Option.bind_some, if_pos rfl]
  by_cases h0 : (x0.length : Int) > 60
  · rw [if_pos h0]; simp [tartanlaw06_PairsChecks.j0]
  · rw [if_neg h0]
    by_cases h1 : (x1.length : Int) > 60
    · rw [decide_eq_true h1]; simp [tartanlaw06_PairsChecks.j0]
    · have hb : x0.length * (x0.length + 3) ≤ 60 * 63 := Nat.mul_le_mul (by omega) (by omega)
      rw [decide_eq_false h1]
      simp only [tartanlaw06_PairsChecks.j0]
      rw [if_neg (by decide), refSame_some (by omega) (by omega), Option.bind_some, if_pos trivial, check_some (okP_of o0 (by omega)), Option.bind_some, refCheck_some (by omega) (by omega), Option.bind_some, if_pos rfl, pairsSame_some (by omega) (by omega), Option.bind_some]
      simp
end Go.Proofs.Ytphmnjapjalfgaa.X
