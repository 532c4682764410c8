/- IndexBuilds: plain. -/
import Derived.Test.YtchpgkojlhipgaaX13
import Derived.Test.YtchpgkojlhipgaaPIndex
import Derived.Test.YtchpgkojlhipgaaROpen
namespace Go.Proofs.Ytchpgkojlhipgaa.X
open Go.RowKit Go.Proofs.YtchpgkojlhipgaaW.PrintWords
set_option linter.unusedVariables false
theorem pure_IndexBuilds : ∀ (x0 : S41) (x1 : List Int) (x2 : Int), okT41 x0 → okT42 x1 → okT3 x2 → ∃ k, tartanlaw12_IndexBuilds.f k x0.f0 x0.f1 x1 x2 = some true := by
  intro x0 x1 x2 o0 o1 o2
  obtain ⟨k, hk⟩ := fuel12
  refine ⟨k + 60, ?_⟩
  unfold tartanlaw12_IndexBuilds.f
  rw [works12, Option.bind_some, if_pos rfl]
  obtain ⟨b, e, hb⟩ := few12 x0.f0 x0.f1 x1 (k := k + 60) (by omega)
  rw [e, Option.bind_some]
  cases b with
  | false => rw [if_neg (by decide)]
  | true =>
    obtain ⟨h1, h2⟩ := hb rfl
    have hl := buildR_len x0.f1 x1
    rw [if_pos rfl, build_some (by omega) (by omega), Option.bind_some, rbuild_some (by omega) (by omega) (by omega), Option.bind_some, rints_some (by omega) (by omega), Option.bind_some, gkey_some (by omega) (by omega), Option.bind_some, rkey_some (by omega) (by omega), Option.bind_some,
      rrow_some (by rw [keyR_len]; omega) (by rw [keyR_len]; omega), Option.bind_some, if_pos (decide_eq_true rfl)]
    simp
end Go.Proofs.Ytchpgkojlhipgaa.X
