/- GreedyOrder: plain. -/
import Derived.Test.YtchpgkojlhipgaaX12
import Derived.Test.YtchpgkojlhipgaaPGreedy
import Derived.Test.YtchpgkojlhipgaaROpen
namespace Go.Proofs.Ytchpgkojlhipgaa.X
open Go.RowKit Go.Proofs.YtchpgkojlhipgaaW.PrintWords
set_option linter.unusedVariables false
theorem pure_GreedyOrder : ∀ (x0 : SC) (x1 : SC) (x2 : SC), okT24 x0 → okT24 x1 → okT24 x2 → ∃ k, tartanlaw10_GreedyOrder.f k x0.f0 x0.f1 x0.f2 x1.f0 x1.f1 x1.f2 x2.f0 x2.f1 x2.f2 = some true := by
  intro x0 x1 x2 o0 o1 o2
  refine ⟨25 + 5, ?_⟩
  unfold tartanlaw10_GreedyOrder.f
  rw [show (25 + 5 : Nat) = 0 + 30 from rfl, works10, Option.bind_some, if_pos rfl, show (0 + 30 : Nat) = 25 + 5 from rfl]
  simp only [better_some, Option.bind_some]
  have hne : ((decide (Bet x0 x1) != decide (Bet x1 x0)) == (!(x0.f0 == x1.f0) || (!(x0.f1 == x1.f1) || (!(x0.f2 == x1.f2))))) = true := by
    rw [beq_iff_eq, Bool.eq_iff_iff]
    by_cases a : Bet x0 x1
    · have b := bet_asym a
      have hd : x0 ≠ x1 := fun e => bet_irr x1 (e ▸ a)
      simp only [a, b, decide_true, decide_false, Bool.or_eq_true, Bool.not_eq_true', beq_eq_false_iff_ne]
      constructor
      · intro _
        by_cases e0 : x0.f0 = x1.f0
        · by_cases e1 : x0.f1 = x1.f1
          · right; right
            intro e2
            apply hd
            cases x0; cases x1; simp_all
          · exact .inr (.inl e1)
        · exact .inl e0
      · intro _; rfl
    · by_cases b : Bet x1 x0
      · have hd : x0 ≠ x1 := fun e => bet_irr x1 (e ▸ b)
        simp only [a, b, decide_true, decide_false, Bool.or_eq_true, Bool.not_eq_true', beq_eq_false_iff_ne]
        constructor
        · intro _
          by_cases e0 : x0.f0 = x1.f0
          · by_cases e1 : x0.f1 = x1.f1
            · right; right
              intro e2
              apply hd
              cases x0; cases x1; simp_all
            · exact .inr (.inl e1)
          · exact .inl e0
        · intro _; rfl
      · have := bet_tot a b
        subst this
        simp [a]
  have hii : decide (Bet x0 x0) = false := decide_eq_false (bet_irr x0)
  rw [hne, hii]
  by_cases a : Bet x0 x1
  · rw [if_pos (decide_eq_true a)]
    by_cases b : Bet x1 x2
    · rw [if_pos (decide_eq_true b), if_pos rfl, if_pos (decide_eq_true (bet_trans a b))]; rfl
    · rw [if_neg (by simpa using b), if_pos rfl]; rfl
  · rw [if_neg (by simpa using a), if_pos rfl]; rfl
end Go.Proofs.Ytchpgkojlhipgaa.X
