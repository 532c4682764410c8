/- PairsRests: plain. -/
import Derived.Test.YtphmnjapjalfgaaX14
import Derived.Test.YtphmnjapjalfgaaPPairsOk
import Derived.Test.YtphmnjapjalfgaaROpen
namespace Go.Proofs.Ytphmnjapjalfgaa.X
open Go.RowKit Go.Proofs.YtphmnjapjalfgaaW.PrintWords
set_option linter.unusedVariables false
theorem pure_PairsRests : ∀ (x0 : List PS) (x1 : Int) (x2 : Int), okT22 x0 → okT3 x1 → okT3 x2 → ∃ k, tartanlaw06_PairsRests.f k x0 x1 x2 = some true := by
  intro x0 x1 x2 o0 o1 o2
  obtain ⟨k, hk⟩ := fuel6
  refine ⟨k + 30, ?_⟩
  unfold tartanlaw06_PairsRests.f
  rw [works06, Option.bind_some, if_pos rfl]
  by_cases h0 : (x0.length : Int) > 60
  · rw [if_pos h0]; simp [tartanlaw06_PairsRests.j0]
  · rw [if_neg h0]
    by_cases h1 : x1 > 1000
    · rw [if_pos h1]; simp [tartanlaw06_PairsRests.j0]
    · rw [if_neg h1]
      by_cases h2 : x2 > 1000
      · rw [decide_eq_true h2]; simp [tartanlaw06_PairsRests.j0]
      · have hb1 : x1.toNat * (x0.length + 3) ≤ 1000 * 63 := Nat.mul_le_mul (by omega) (by omega)
        have hb2 : x2.toNat * (x0.length + 3) ≤ 1000 * 63 := Nat.mul_le_mul (by omega) (by omega)
        have r1 := restR_le (x0.map (·.f0)) x1.toNat
        have r2 := restR_le (x0.map (·.f1)) x2.toNat
        have ok := okP_of o0 (by omega)
        rw [decide_eq_false h2]
        simp only [tartanlaw06_PairsRests.j0]
        rw [if_neg (by decide), restA_some ok (by omega), Option.bind_some, refRestA_some (by omega) (by omega) (by omega), Option.bind_some, refInts_some (by omega) (by omega), Option.bind_some,
          restB_some ok (by omega), Option.bind_some, refRestB_some (by omega) (by omega) (by omega), Option.bind_some, refInts_some (by omega) (by omega), Option.bind_some, if_pos trivial, if_pos (by simp)]
        simp
end Go.Proofs.Ytphmnjapjalfgaa.X
