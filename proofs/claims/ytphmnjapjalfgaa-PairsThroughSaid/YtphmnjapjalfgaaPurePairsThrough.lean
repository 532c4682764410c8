/- PairsThrough: plain. -/
import Derived.Test.YtphmnjapjalfgaaX17
import Derived.Test.YtphmnjapjalfgaaPPairsTurn
namespace Go.Proofs.Ytphmnjapjalfgaa.X
open Go.RowKit Go.Proofs.YtphmnjapjalfgaaW.PrintWords
set_option linter.unusedVariables false
theorem pure_PairsThrough : ∀ (x0 : List PS) (x1 : List PS) (x2 : Int) (x3 : Int) (x4 : Int), okT22 x0 → okT22 x1 → okT3 x2 → okT3 x3 → okT3 x4 → ∃ k, tartanlaw06_PairsThrough.f k x0 x1 x2 x3 x4 = some true := by
  intro x0 x1 x2 x3 x4 o0 o1 o2 o3 o4
  obtain ⟨k, hk⟩ := fuel6
  refine ⟨k + 30, ?_⟩
  unfold tartanlaw06_PairsThrough.f
  rw [works06, Option.bind_some, if_pos rfl]
  by_cases h0 : (x0.length : Int) > 60
  · rw [if_pos h0]; simp [tartanlaw06_PairsThrough.j0]
  · rw [if_neg h0]
    by_cases h1 : (x1.length : Int) > 60
    · rw [decide_eq_true h1]; simp [tartanlaw06_PairsThrough.j0]
    · have ok0 := okP_of o0 (by omega)
      have ok1 := okP_of o1 (by omega)
      rw [decide_eq_false h1]
      simp only [tartanlaw06_PairsThrough.j0]
      rw [if_neg (by decide), check_some ok0, Option.bind_some]
      by_cases c0 : checkR x0 x2 x3 = 0
      · rw [if_pos c0, check_some ok1, Option.bind_some]
        simp only [tartanlaw06_PairsThrough.j1]
        by_cases c1 : checkR x1 x3 x4 = 0
        · have m0 := may_iff.1 c0
          have m1 := may_iff.1 c1
          have l0 := turnR_len x0
          have l1 := turnR_len x1
          have t1 := thr_le x0 x1
          have t2 := thr_le (turnR x1) (turnR x0)
          have hE := m0.thr_turn m1
          have t3 := turnR_len (thr x0 x1)
          have hL := congrArg List.length hE
          have okz : okP (thr x0 x1) = true := by
            unfold okP
            simp only [Bool.and_eq_true, decide_eq_true_eq, List.all_eq_true]
            refine ⟨by omega, fun z hz => ?_⟩
            obtain ⟨q, hq, p, hp, e, rfl⟩ := (mem_thr m0.nd1).1 hz
            exact ⟨(okP_mem ok0 p hp).1, (okP_mem ok1 q hq).2⟩
          rw [if_neg (by rw [c1]; decide), through_some (by omega) (by omega), Option.bind_some, turn_some (by omega), Option.bind_some, turn_some (by omega), Option.bind_some, turn_some (by omega), Option.bind_some,
            through_some (by omega) (by omega), Option.bind_some, refSame_some (by omega) (by omega), Option.bind_some, if_pos trivial, check_some okz, Option.bind_some, may_iff.2 (m0.thr m1), if_pos rfl, if_pos, hE, sameB_refl]
          unfold mn
          split <;> omega
        · rw [if_pos (by simpa using c1)]
      · rw [if_neg c0]
        simp [tartanlaw06_PairsThrough.j1]
end Go.Proofs.Ytphmnjapjalfgaa.X
