/- IndexCompares: plain. -/
import Derived.Test.YtchpgkojlhipgaaX17
import Derived.Test.YtchpgkojlhipgaaPIndex
import Derived.Test.YtchpgkojlhipgaaROpen
namespace Go.Proofs.Ytchpgkojlhipgaa.X
open Go.RowKit Go.Proofs.YtchpgkojlhipgaaW.PrintWords
set_option linter.unusedVariables false
theorem cmp1_bnd (a b : ByteArray) : -1 ≤ cmp1 a b ∧ cmp1 a b ≤ 1 := by unfold cmp1; split <;> (try split) <;> omega
theorem cmpS_bnd : ∀ a b : List ByteArray, -1 ≤ cmpS a b ∧ cmpS a b ≤ 1
  | [], [] => by simp [cmpS]
  | [], _ :: _ => by simp [cmpS]
  | _ :: _, [] => by simp [cmpS]
  | a :: x, b :: y => by
    simp only [cmpS]
    split
    · exact cmpS_bnd x y
    · exact cmp1_bnd a b
theorem pure_IndexCompares : ∀ (x0 : List ByteArray) (x1 : List ByteArray) (x2 : List ByteArray), okT38 x0 → okT38 x1 → okT38 x2 → ∃ k, tartanlaw12_IndexCompares.f k x0 x1 x2 = some true := by
  intro x0 x1 x2 o0 o1 o2
  obtain ⟨k, hk⟩ := fuel12
  refine ⟨k + 60, ?_⟩
  unfold tartanlaw12_IndexCompares.f
  rw [works12, Option.bind_some, if_pos rfl]
  by_cases h0 : (x0.length : Int) > 60
  · rw [if_pos h0]; simp [tartanlaw12_IndexCompares.j0]
  · rw [if_neg h0]
    by_cases h1 : (x1.length : Int) > 60
    · rw [if_pos h1]; simp [tartanlaw12_IndexCompares.j0]
    · rw [if_neg h1]
      by_cases h2 : (x2.length : Int) > 60
      · rw [decide_eq_true h2]; simp [tartanlaw12_IndexCompares.j0]
      · rw [decide_eq_false h2]
        simp only [tartanlaw12_IndexCompares.j0]
        have hb := cmpS_bnd x0 x1
        have hn := cmpS_neg x0 x1
        have hw : wrap64 (-cmpS x0 x1) = cmpS x1 x0 := by rw [wrap_inK (by omega) (by omega), hn]
        have he : ((cmpS x0 x1 == 0) == decide (x0 = x1)) = true := by
          by_cases e : x0 = x1
          · rw [decide_eq_true e, cmpS_eq.2 e]; rfl
          · have : cmpS x0 x1 ≠ 0 := fun h => e (cmpS_eq.1 h)
            rw [decide_eq_false e]; simp [this]
        rw [if_neg (by decide), gcmp_some (by omega) (by omega) (by omega), Option.bind_some, gcmp_some (by omega) (by omega) (by omega), Option.bind_some, gcmp_some (by omega) (by omega) (by omega), Option.bind_some, rcmp_some (by omega) (by omega) (by omega), Option.bind_some, if_pos rfl, gcmp_some (by omega) (by omega) (by omega), Option.bind_some,
          if_pos hw.symm, rrow_some (by omega) (by omega), Option.bind_some, if_pos trivial, if_pos he]
        by_cases c1 : cmpS x0 x1 > 0
        · rw [if_pos c1]
        · rw [if_neg c1]
          by_cases c2 : cmpS x1 x2 > 0
          · rw [if_pos c2]
          · rw [if_neg c2, decide_eq_true (cmpS_le x0 x1 x2 (by omega) (by omega))]
end Go.Proofs.Ytchpgkojlhipgaa.X
