/- Texts in order: one of two is less, or they are alike. -/
import Derived.Test.YtchpgkojlhipgaaWMore
import Derived.Laws.Cover1
namespace Go.Proofs.Ytchpgkojlhipgaa.GBytes
open Go

theorem less_irr : ∀ x : List UInt8, Op.bytesLess x x = false
  | [] => by unfold Op.bytesLess; rfl
  | a :: x => by
    unfold Op.bytesLess
    rw [less_irr x]
    simp [UInt8.lt_irrefl]
theorem less_tot : ∀ x y : List UInt8, Op.bytesLess x y = false → Op.bytesLess y x = false → x = y
  | [], [], _, _ => rfl
  | [], _ :: _, h, _ => by simp [Op.bytesLess] at h
  | _ :: _, [], _, h => by simp [Op.bytesLess] at h
  | a :: x, b :: y, h1, h2 => by
    unfold Op.bytesLess at h1 h2
    simp only [Bool.or_eq_false_iff, decide_eq_false_iff_not, Bool.and_eq_false_iff] at h1 h2
    have e : a = b := by
      have h3 : ¬ a.toNat < b.toNat := h1.1
      have h4 : ¬ b.toNat < a.toNat := h2.1
      exact UInt8.toNat_inj.1 (by omega)
    subst e
    have h3 := h1.2
    have h4 := h2.2
    simp only [beq_self_eq_true, Bool.true_eq_false, false_or] at h3 h4
    rw [less_tot x y h3 h4]
theorem less_trans : ∀ x y z : List UInt8, Op.bytesLess x y = true → Op.bytesLess y z = true → Op.bytesLess x z = true
  | _, [], _, h, _ => by cases ‹List UInt8› <;> simp [Op.bytesLess] at h
  | _, _ :: _, [], _, h => by simp [Op.bytesLess] at h
  | [], _ :: _, _ :: _, _, _ => by simp [Op.bytesLess]
  | a :: x, b :: y, c :: z, h1, h2 => by
    have ih := less_trans x y z
    unfold Op.bytesLess at h1 h2 ⊢
    simp only [Bool.or_eq_true, decide_eq_true_eq, Bool.and_eq_true, beq_iff_eq] at h1 h2 ⊢
    rcases h1 with h1 | ⟨rfl, h1⟩
    · rcases h2 with h2 | ⟨rfl, h2⟩
      · exact .inl (UInt8.lt_trans h1 h2)
      · exact .inl h1
    · rcases h2 with h2 | ⟨rfl, h2⟩
      · exact .inl h2
      · exact .inr ⟨rfl, ih h1 h2⟩
theorem ne {x y : List UInt8} (h : Op.bytesLess x y = true) : (y == x) = false := by
  rw [beq_eq_false_iff_ne]
  rintro rfl
  rw [less_irr] at h
  cases h
theorem eq {x y : List UInt8} (h : Op.bytesLess x y = false) (h2 : Op.bytesLess y x = false) : (y == x) = true := by
  rw [less_tot y x h2 h]
  simp
end Go.Proofs.Ytchpgkojlhipgaa.GBytes
