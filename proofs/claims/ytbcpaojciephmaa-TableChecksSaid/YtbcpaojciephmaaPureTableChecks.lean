/- TableChecks: plain. -/
import Derived.Test.YtbcpaojciephmaaX12
import Derived.Test.YtbcpaojciephmaaPTableOk
import Derived.Test.YtbcpaojciephmaaROpen
namespace Go.Proofs.Ytbcpaojciephmaa.X
open Go.RowKit Go.Proofs.YtbcpaojciephmaaW.PrintWords
set_option linter.unusedVariables false
theorem pure_TableChecks : ∀ (x0 : S25) (x1 : S25), okT25 x0 → okT25 x1 → ∃ k, tartanlaw04_TableChecks.f k x0.f0 x0.f1 x1.f0 x1.f1 = some true := by
  intro x0 x1 o0 o1
  obtain ⟨k, hk⟩ := fuel04
  refine ⟨k + 60, ?_⟩
  unfold tartanlaw04_TableChecks.f
  rw [works04, Option.bind_some, if_pos rfl]
  obtain ⟨b, e, hb⟩ := fewT x0.f0 x0.f1 (k := k + 60) (by omega)
  rw [e, Option.bind_some]
  cases b with
  | false => rw [if_neg (by decide)]; simp [tartanlaw04_TableChecks.j0]
  | true =>
    have s := hb rfl
    rw [if_pos rfl]
    obtain ⟨b2, e2, hb2⟩ := fewT x1.f0 x1.f1 (k := k + 60) (by omega)
    rw [e2, Option.bind_some]
    cases b2 with
    | false => simp [tartanlaw04_TableChecks.j0]
    | true =>
      simp only [tartanlaw04_TableChecks.j0]
      rw [if_pos trivial, tsame_some _ _ _ _ s (by omega), Option.bind_some, if_pos trivial, s.check o0.1.2, Option.bind_some, chk_some _ _ s (by omega), Option.bind_some, if_pos rfl, s.total, Option.bind_some, tot_some _ _ s (by omega), Option.bind_some, if_pos rfl]
      simp [table_Same.f]
end Go.Proofs.Ytbcpaojciephmaa.X
