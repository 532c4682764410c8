/- GreedyPicks: plain. -/
import Derived.Test.YtchpgkojlhipgaaX8
import Derived.Test.YtchpgkojlhipgaaPGreedyOk
namespace Go.Proofs.Ytchpgkojlhipgaa.X
open Go.RowKit Go.Proofs.YtchpgkojlhipgaaW.PrintWords
set_option linter.unusedVariables false
theorem pure_GreedyPicks : ∀ (x0 : List SC) (x1 : SC) (x2 : SC), okT22 x0 → okT24 x1 → okT24 x2 → ∃ k, tartanlaw10_GreedyPicks.f k x0 x1.f0 x1.f1 x1.f2 x2.f0 x2.f1 x2.f2 = some true := by
  intro x0 x1 x2 o0 o1 o2
  obtain ⟨k, hk⟩ := fuel10
  refine ⟨k + 30, ?_⟩
  unfold tartanlaw10_GreedyPicks.f
  rw [works10, Option.bind_some, if_pos rfl]
  by_cases h0 : (x0.length : Int) > 60
  · rw [if_pos h0]
  · have hb : x0.length * (3 * x0.length + 10) ≤ 60 * 190 := Nat.mul_le_mul (by omega) (by omega)
    have hp := pick_len x0
    rw [if_neg h0, pick_some (okC_of o0 (by omega)), Option.bind_some, refPick_some (by omega) (by omega), Option.bind_some, refSame_some (by omega) (by omega), Option.bind_some, if_pos (sameB_refl _),
      show k + 30 = (k + 25) + 5 from rfl, better_some, Option.bind_some, refBetter_some, Option.bind_some]
    simp
end Go.Proofs.Ytchpgkojlhipgaa.X
