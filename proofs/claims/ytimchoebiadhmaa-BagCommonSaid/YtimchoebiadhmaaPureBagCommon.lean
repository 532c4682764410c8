/- BagCommon over plain lists: a common row's texts are had in common. -/
import Derived.Test.YtimchoebiadhmaaPBagRef
import Derived.Test.YtimchoebiadhmaaGLcs
import Derived.Test.YtimchoebiadhmaaX7
namespace Go.Proofs.Ytimchoebiadhmaa.X
open Go.RowKit Go.Proofs.YtimchoebiadhmaaW.PrintWords
theorem ov2_consL_le {α : Type} [BEq α] [LawfulBEq α] (s : α) (a b : List α) : ov2 a b ≤ ov2 (s :: a) b := by rw [ov2_cons]; omega
theorem ov2_consR_le {α : Type} [BEq α] [LawfulBEq α] (s : α) (a b : List α) : ov2 a b ≤ ov2 a (s :: b) := by rw [ov2_symm a b, ov2_symm a (s :: b)]; exact ov2_consL_le s b a
theorem lcsL_ov2 : ∀ (a b : List ByteArray), lcsL a b ≤ ov2 (BT a) (BT b)
  | [], _ => Nat.zero_le _
  | x :: a, [] => Nat.zero_le _
  | x :: a, y :: b => by
    rw [lcsL_cons]
    have h1 := lcsL_ov2 a b
    have h2 := lcsL_ov2 a (y :: b)
    have h3 := lcsL_ov2 (x :: a) b
    by_cases e : x = y
    · subst e
      rw [if_pos rfl]
      simp only [BT, List.map_cons, ov2]
      rw [if_pos List.mem_cons_self, List.erase_cons_head]
      simpa [BT] using h1
    · rw [if_neg e]
      have h4 := ov2_consL_le (bts x) (BT a) (BT (y :: b))
      have h5 := ov2_consR_le (bts y) (BT (x :: a)) (BT b)
      simp only [BT, List.map_cons] at *
      omega
theorem lcsLength_some {a b : List ByteArray} (ha : a.length ≤ 10000) (hb : b.length ≤ 10000) : lcs_Length.f a b = some ((lcsL a b : Nat) : Int) := by
  unfold lcs_Length.f; rw [if_pos ⟨ha, hb⟩]
theorem pure_BagCommon : ∀ (x0 : List (ByteArray)) (x1 : List (ByteArray)), okT22 x0 → okT22 x1 → ∃ k, tartanlaw09_BagCommon.f k x0 x1 = some true := by
  intro a b h0 h1
  by_cases hbig : 60 < a.length ∨ 60 < b.length
  · refine ⟨1, ?_⟩
    unfold tartanlaw09_BagCommon.f
    rw [bag_works, Option.bind_some, if_pos rfl]
    by_cases h : 60 < a.length
    · rw [if_pos (by omega)]; simp [tartanlaw09_BagCommon.j0]
    · rw [if_neg (by omega), decide_eq_true (by omega)]; simp [tartanlaw09_BagCommon.j0]
  · refine ⟨1, ?_⟩
    have ha := okS_of h0 (by omega)
    have hb := okS_of h1 (by omega)
    have h4 := ov2_le (BT a) (BT b)
    have h5 := ov2_le' (BT a) (BT b)
    simp only [List.length_map] at h4 h5
    unfold tartanlaw09_BagCommon.f
    rw [bag_works, Option.bind_some, if_pos rfl, if_neg (by omega), decide_eq_false (by omega)]
    simp only [tartanlaw09_BagCommon.j0]
    rw [if_neg (by decide), overlap_some ha hb, lcsLength_some (by omega) (by omega), bagSame_some ha hb]
    simp only [if_true, Option.bind_some]
    rw [if_pos (by have := lcsL_ov2 a b; omega)]
    by_cases e : ((ov2 (BT a) (BT b) : Nat) : Int) = (a.length : Int)
    · rw [if_pos e]
      congr 1
      rw [beq_iff_eq, Bool.eq_iff_iff, decide_eq_true_eq, beq_iff_eq]; omega
    · rw [if_neg e]
      congr 1
      rw [beq_iff_eq, decide_eq_false_iff_not]; omega
end Go.Proofs.Ytimchoebiadhmaa.X
