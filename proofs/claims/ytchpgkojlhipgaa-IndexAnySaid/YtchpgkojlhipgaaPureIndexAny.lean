/- IndexAny: plain. -/
import Derived.Test.YtchpgkojlhipgaaX18
import Derived.Test.YtchpgkojlhipgaaPIndex
import Derived.Test.YtchpgkojlhipgaaROpen
namespace Go.Proofs.Ytchpgkojlhipgaa.X
open Go.RowKit Go.Proofs.YtchpgkojlhipgaaW.PrintWords
set_option linter.unusedVariables false
theorem pure_IndexAny : ∀ (x0 : S41) (x1 : List Int) (x2 : List Int) (x3 : List ByteArray), okT41 x0 → okT42 x1 → okT42 x2 → okT38 x3 → ∃ k, tartanlaw12_IndexAny.f k x0.f0 x0.f1 x1 x2 x3 = some true := by
  intro x0 x1 x2 x3 o0 o1 o2 o3
  obtain ⟨k, hk⟩ := fuel12
  refine ⟨k + 60, ?_⟩
  unfold tartanlaw12_IndexAny.f
  rw [works12, Option.bind_some, if_pos rfl]
  obtain ⟨b, e, hb⟩ := few12 x0.f0 x0.f1 x1 (k := k + 60) (by omega)
  rw [e, Option.bind_some]
  cases b with
  | false => rw [if_neg (by decide)]; simp [tartanlaw12_IndexAny.j0]
  | true =>
    obtain ⟨h1, h2⟩ := hb rfl
    rw [if_pos rfl]
    by_cases h4 : (x2.length : Int) > 60
    · rw [if_pos h4]; simp [tartanlaw12_IndexAny.j0]
    · rw [if_neg h4]
      by_cases h3 : (x3.length : Int) > 12
      · rw [decide_eq_true h3]; simp [tartanlaw12_IndexAny.j0]
      · rw [decide_eq_false h3]
        simp only [tartanlaw12_IndexAny.j0]
        obtain ⟨f1, f2⟩ := find_key x0.f1 x1 x3 x2
        rw [if_neg (by decide), find_some (by omega) (by omega) (by omega), Option.bind_some]
        cases hf : (findR x0.f1 x1 x2 x3).2 with
        | true =>
          rw [if_pos rfl, if_pos trivial, gkey_some (by omega) (by omega), Option.bind_some, gcmp_some (by rw [keyR_len]; omega) (by omega) (by rw [keyR_len]; omega), Option.bind_some, f1 hf]; rfl
        | false =>
          rw [if_neg (by decide), if_pos trivial, f2 hf]; rfl
end Go.Proofs.Ytchpgkojlhipgaa.X
