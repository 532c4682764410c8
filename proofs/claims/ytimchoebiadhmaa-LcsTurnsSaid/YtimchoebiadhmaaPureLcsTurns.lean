/- LcsTurns over plain lists: the length is the same both ways round; what both begin or end with is counted whole. -/
import Derived.Test.YtimchoebiadhmaaPLcsRef
import Derived.Test.YtimchoebiadhmaaX15
namespace Go.Proofs.Ytimchoebiadhmaa.X
open Go.RowKit Go.Proofs.YtimchoebiadhmaaW.PrintWords
theorem pure_LcsTurns : ∀ (x0 : List (ByteArray)) (x1 : List (ByteArray)) (x2 : List (ByteArray)), okT22 x0 → okT22 x1 → okT22 x2 → ∃ k, tartanlaw08_LcsTurns.f k x0 x1 x2 = some true := by
  intro a b c _ _ _
  refine ⟨400, ?_⟩
  unfold tartanlaw08_LcsTurns.f
  rw [lcs_works (by omega), Option.bind_some, if_pos rfl, small_some, Option.bind_some]
  by_cases h : a.length ≤ 60 ∧ b.length ≤ 60
  · rw [if_pos (decide_eq_true h)]
    obtain ⟨ha, hb⟩ := h
    by_cases hc : c.length ≤ 60
    · rw [decide_eq_false (by omega)]
      simp only [tartanlaw08_LcsTurns.j0]
      have l1 := lcsL_le a b
      have l2 := lcsL_leR a b
      rw [if_neg (by decide), length_some (by omega) (by omega), Option.bind_some, Option.bind_some, if_pos (by simp; omega), Option.bind_some, if_pos (by simp; omega), Option.bind_some, if_pos (by simp; omega), Option.bind_some, if_pos (by simp; omega),
        List.nil_append, length_some (by simp; omega) (by simp; omega), Option.bind_some, Option.bind_some, if_pos (by simp; omega), Option.bind_some, if_pos (by simp; omega), Option.bind_some, if_pos (by simp; omega), Option.bind_some, if_pos (by simp; omega),
        List.nil_append, List.nil_append, length_some (by simp; omega) (by simp; omega), Option.bind_some, if_pos trivial, length_some (by omega) (by omega), Option.bind_some, lcsL_symm b a, if_pos rfl, lcsL_front, lcsL_behind,
        wrap_in8 (by omega) (by omega), if_pos (by omega), if_pos (by omega), decide_eq_true (by unfold mn; split <;> omega)]
    · rw [decide_eq_true (by omega)]; rfl
  · rw [if_neg (by simpa using h)]; rfl
end Go.Proofs.Ytimchoebiadhmaa.X
