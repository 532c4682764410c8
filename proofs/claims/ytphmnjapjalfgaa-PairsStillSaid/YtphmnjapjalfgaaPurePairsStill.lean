/- PairsStill: plain. -/
import Derived.Test.YtphmnjapjalfgaaX12
import Derived.Test.YtphmnjapjalfgaaPPairsOk
import Derived.Test.YtphmnjapjalfgaaROpen
namespace Go.Proofs.Ytphmnjapjalfgaa.X
open Go.RowKit Go.Proofs.YtphmnjapjalfgaaW.PrintWords
set_option linter.unusedVariables false
theorem pure_PairsStill : ∀ (x0 : List PS), okT22 x0 → ∃ k, tartanlaw06_PairsStill.f k x0 = some true := by
  intro x0 o0
  obtain ⟨k, hk⟩ := fuel6
  refine ⟨k + 30, ?_⟩
  unfold tartanlaw06_PairsStill.f
  rw [works06, Option.bind_some, if_pos rfl]
  by_cases h0 : (x0.length : Int) > 60
  · rw [if_pos h0]
  · have hb : x0.length * (x0.length + 3) ≤ 60 * 63 := Nat.mul_le_mul (by omega) (by omega)
    have hs := still_len x0
    rw [if_neg h0, still_some (by omega), Option.bind_some, refStill_some (by omega) (by omega), Option.bind_some, refInts_some (by omega) (by omega), Option.bind_some]
    simp
end Go.Proofs.Ytphmnjapjalfgaa.X
