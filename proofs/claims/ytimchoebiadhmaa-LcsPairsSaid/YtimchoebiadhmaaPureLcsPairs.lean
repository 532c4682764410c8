/- LcsPairs over plain lists: the grid's pairs and its length are the reference's. -/
import Derived.Test.YtimchoebiadhmaaPLcsRef
import Derived.Test.YtimchoebiadhmaaX12
namespace Go.Proofs.Ytimchoebiadhmaa.X
open Go.RowKit Go.Proofs.YtimchoebiadhmaaW.PrintWords
theorem pure_LcsPairs : ∀ (x0 : List (ByteArray)) (x1 : List (ByteArray)), okT22 x0 → okT22 x1 → ∃ k, tartanlaw08_LcsPairs.f k x0 x1 = some true := by
  intro a b _ _
  refine ⟨400, ?_⟩
  unfold tartanlaw08_LcsPairs.f
  rw [lcs_works (by omega), Option.bind_some, if_pos rfl, small_some, Option.bind_some]
  by_cases c : a.length ≤ 60 ∧ b.length ≤ 60
  · have hl := lcsP_len a 0 b 0
    rw [if_pos (decide_eq_true c), pairs_some (by omega) (by omega), Option.bind_some, refPairs_some a b (by omega) (by omega) (by omega), Option.bind_some, refSame6_some _ (by rw [List.length_map]; omega) (by rw [List.length_map]; omega), Option.bind_some, if_pos rfl,
      length_some (by omega) (by omega), Option.bind_some, refLength_some a b (by omega) (by omega) (by omega), Option.bind_some]
    simp
  · rw [if_neg (by simpa using c)]
end Go.Proofs.Ytimchoebiadhmaa.X
