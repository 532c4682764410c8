/- BagOverlaps over plain lists. -/
import Derived.Test.YtimchoebiadhmaaPBagRef
import Derived.Test.YtimchoebiadhmaaX4
namespace Go.Proofs.Ytimchoebiadhmaa.X
open Go.RowKit Go.Proofs.YtimchoebiadhmaaW.PrintWords
theorem pure_BagOverlaps : ∀ (x0 : List (ByteArray)) (x1 : List (ByteArray)) (x2 : ByteArray), okT22 x0 → okT22 x1 → okT9 x2 → ∃ k, tartanlaw09_BagOverlaps.f k x0 x1 x2 = some true := by
  intro a b s h0 h1 h2
  by_cases hbig : 60 < a.length ∨ 60 < b.length
  · refine ⟨1, ?_⟩
    unfold tartanlaw09_BagOverlaps.f
    rw [bag_works, Option.bind_some, if_pos rfl]
    by_cases h : 60 < a.length
    · rw [if_pos (by omega)]; simp [tartanlaw09_BagOverlaps.j0]
    · rw [if_neg (by omega), decide_eq_true (by omega)]; simp [tartanlaw09_BagOverlaps.j0]
  · refine ⟨2 * a.length + b.length + 3, ?_⟩
    have ha := okS_of h0 (by omega)
    have hb := okS_of h1 (by omega)
    unfold tartanlaw09_BagOverlaps.f
    rw [bag_works, Option.bind_some, if_pos rfl, if_neg (by omega), decide_eq_false (by omega)]
    simp only [tartanlaw09_BagOverlaps.j0]
    rw [if_neg (by decide), overlap_some ha hb, refOverlap_some (by omega) (by omega) (by omega), bagSame_some ha hb, refSame_some (by omega) (by omega) (by omega), count_some ha h2, refCount_some (by omega) (by omega)]
    simp only [if_true, Option.bind_some]
    rw [if_pos]
    · simp
    · rw [beq_iff_eq, decide_eq_decide]; omega
end Go.Proofs.Ytimchoebiadhmaa.X
