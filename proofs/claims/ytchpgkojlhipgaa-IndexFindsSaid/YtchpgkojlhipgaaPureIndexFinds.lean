/- IndexFinds: plain. -/
import Derived.Test.YtchpgkojlhipgaaX15
import Derived.Test.YtchpgkojlhipgaaPIndex
import Derived.Test.YtchpgkojlhipgaaROpen
namespace Go.Proofs.Ytchpgkojlhipgaa.X
open Go.RowKit Go.Proofs.YtchpgkojlhipgaaW.PrintWords
set_option linter.unusedVariables false
theorem pure_IndexFinds : ∀ (x0 : S41) (x1 : List Int) (x2 : List ByteArray), okT41 x0 → okT42 x1 → okT38 x2 → ∃ k, tartanlaw12_IndexFinds.f k x0.f0 x0.f1 x1 x2 = some true := by
  intro x0 x1 x2 o0 o1 o2
  obtain ⟨k, hk⟩ := fuel12
  refine ⟨k + 60, ?_⟩
  unfold tartanlaw12_IndexFinds.f
  rw [works12, Option.bind_some, if_pos rfl]
  obtain ⟨b, e, hb⟩ := few12 x0.f0 x0.f1 x1 (k := k + 60) (by omega)
  rw [e, Option.bind_some]
  cases b with
  | false => rw [if_neg (by decide)]; simp [tartanlaw12_IndexFinds.j0]
  | true =>
    obtain ⟨h1, h2⟩ := hb rfl
    have hl := buildR_len x0.f1 x1
    rw [if_pos rfl]
    by_cases h3 : (x2.length : Int) > 12
    · rw [decide_eq_true h3]; simp [tartanlaw12_IndexFinds.j0]
    · rw [decide_eq_false h3]
      simp only [tartanlaw12_IndexFinds.j0]
      rw [if_neg (by decide), build_some (by omega) (by omega), Option.bind_some, find_some (by omega) (by omega) (by omega), Option.bind_some, rfind_some (by omega) (by omega) (by omega) (by omega), Option.bind_some, if_pos trivial, if_pos rfl]
      simp
end Go.Proofs.Ytchpgkojlhipgaa.X
