/- Keys stand in one order. -/
import Derived.Test.YtchpgkojlhipgaaPKey
import Derived.Test.YtchpgkojlhipgaaGBytes
namespace Go.Proofs.Ytchpgkojlhipgaa.X
open Go.RowKit Go.Proofs.YtchpgkojlhipgaaW.PrintWords
set_option linter.unusedVariables false
theorem bstr_eq {x y : ByteArray} : x.toList = y.toList ↔ x = y := by
  rw [ByteArray.toList_eq, ByteArray.toList_eq]
  exact ⟨fun h => ByteArray.ext (Array.toList_inj.mp h), fun h => by rw [h]⟩
abbrev Lt1 (a b : ByteArray) : Prop := Op.bytesLess a.toList b.toList = true
theorem lt1_irr (a : ByteArray) : ¬ Lt1 a a := by unfold Lt1; rw [GBytes.less_irr]; decide
theorem lt1_tr {a b c : ByteArray} (h : Lt1 a b) (h2 : Lt1 b c) : Lt1 a c := GBytes.less_trans _ _ _ h h2
theorem lt1_tot {a b : ByteArray} (h : ¬ Lt1 a b) (h2 : ¬ Lt1 b a) : a = b := bstr_eq.1 (GBytes.less_tot _ _ (Bool.eq_false_iff.2 h) (Bool.eq_false_iff.2 h2))
theorem cmp1_lt {a b : ByteArray} : cmp1 a b < 0 ↔ Lt1 a b := by
  unfold cmp1
  by_cases h : Lt1 a b
  · rw [if_pos h]; exact ⟨fun _ => h, fun _ => by decide⟩
  · rw [if_neg h]
    split <;> simp [h]
theorem cmp1_eq {a b : ByteArray} : cmp1 a b = 0 ↔ a = b := by
  unfold cmp1
  by_cases h : Lt1 a b
  · rw [if_pos h]
    constructor
    · intro h; cases h
    · rintro rfl; exact absurd h (lt1_irr a)
  · rw [if_neg h]
    by_cases h2 : Lt1 b a
    · rw [if_pos h2]
      constructor
      · intro h; cases h
      · rintro rfl; exact absurd h2 (lt1_irr a)
    · rw [if_neg h2]
      exact ⟨fun _ => lt1_tot h h2, fun _ => rfl⟩
theorem cmp1_neg (a b : ByteArray) : cmp1 b a = - cmp1 a b := by
  unfold cmp1
  by_cases h : Lt1 a b
  · rw [if_neg (fun h2 => lt1_irr a (lt1_tr h h2)), if_pos h, if_pos h]; rfl
  · rw [if_neg h]
    by_cases h2 : Lt1 b a
    · rw [if_pos h2, if_neg h, if_pos h2]
    · rw [if_neg h2, if_neg h, if_neg h2]; rfl
theorem cmpS_eq : ∀ {a b : List ByteArray}, cmpS a b = 0 ↔ a = b
  | [], [] => by simp [cmpS]
  | [], _ :: _ => by simp [cmpS]
  | _ :: _, [] => by simp [cmpS]
  | a :: x, b :: y => by
    simp only [cmpS]
    by_cases h : cmp1 a b = 0
    · rw [if_pos h, cmpS_eq, cmp1_eq.1 h]; simp
    · rw [if_neg h]
      constructor
      · intro h2; exact absurd h2 h
      · intro h2; injection h2 with h2 _; exact absurd (cmp1_eq.2 h2) h
theorem cmpS_neg : ∀ (a b : List ByteArray), cmpS b a = - cmpS a b
  | [], [] => rfl
  | [], _ :: _ => rfl
  | _ :: _, [] => rfl
  | a :: x, b :: y => by
    simp only [cmpS]
    rw [cmp1_neg a b]
    by_cases h : cmp1 a b = 0
    · rw [if_pos h, if_pos (by omega), cmpS_neg x y]
    · rw [if_neg h, if_neg (by omega)]
/-- Through a third one. -/
theorem cmpS_tr : ∀ (a b c : List ByteArray), cmpS a b < 0 → cmpS b c ≤ 0 → cmpS a c < 0
  | [], [], c, h, _ => by simp [cmpS] at h
  | _ :: _, [], c, h, _ => by simp [cmpS] at h
  | [], _ :: _, [], _, h => by simp [cmpS] at h
  | [], _ :: _, _ :: _, _, _ => by simp [cmpS]
  | _ :: _, _ :: _, [], _, h => by simp [cmpS] at h
  | a :: x, b :: y, c :: z, h1, h2 => by
    simp only [cmpS] at h1 h2 ⊢
    by_cases e1 : cmp1 a b = 0
    · obtain rfl := cmp1_eq.1 e1
      rw [if_pos e1] at h1
      by_cases e2 : cmp1 a c = 0
      · rw [if_pos e2] at h2 ⊢
        exact cmpS_tr x y z h1 h2
      · rw [if_neg e2] at h2 ⊢
        omega
    · rw [if_neg e1] at h1
      by_cases e2 : cmp1 b c = 0
      · obtain rfl := cmp1_eq.1 e2
        rw [if_neg e1]; exact h1
      · rw [if_neg e2] at h2
        have h3 : cmp1 a c < 0 := cmp1_lt.2 (lt1_tr (cmp1_lt.1 h1) (cmp1_lt.1 (by omega)))
        rw [if_neg (by omega)]; exact h3
theorem cmpS_tr' (a b c : List ByteArray) (h1 : cmpS a b ≤ 0) (h2 : cmpS b c < 0) : cmpS a c < 0 := by
  have := cmpS_neg a c
  rcases Int.lt_or_eq_of_le h1 with h | h
  · exact cmpS_tr a b c h (by omega)
  · rw [cmpS_eq.1 h]; exact h2
theorem cmpS_le (a b c : List ByteArray) (h1 : cmpS a b ≤ 0) (h2 : cmpS b c ≤ 0) : cmpS a c ≤ 0 := by
  rcases Int.lt_or_eq_of_le h1 with h | h
  · have := cmpS_tr a b c h h2; omega
  · rw [cmpS_eq.1 h]; exact h2
end Go.Proofs.Ytchpgkojlhipgaa.X
