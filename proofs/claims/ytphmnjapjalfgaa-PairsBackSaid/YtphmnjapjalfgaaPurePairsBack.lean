/- PairsBack: plain. -/
import Derived.Test.YtphmnjapjalfgaaX15
import Derived.Test.YtphmnjapjalfgaaPPairsTurn
namespace Go.Proofs.Ytphmnjapjalfgaa.X
open Go.RowKit Go.Proofs.YtphmnjapjalfgaaW.PrintWords
set_option linter.unusedVariables false
theorem pure_PairsBack : ∀ (x0 : List PS) (x1 : Int) (x2 : Int), okT22 x0 → okT3 x1 → okT3 x2 → ∃ k, tartanlaw06_PairsBack.f k x0 x1 x2 = some true := by
  intro x0 x1 x2 o0 o1 o2
  obtain ⟨k, hk⟩ := fuel6
  refine ⟨k + 30, ?_⟩
  unfold tartanlaw06_PairsBack.f
  rw [works06, Option.bind_some, if_pos rfl]
  by_cases h0 : (x0.length : Int) > 60
  · rw [if_pos h0]; simp [tartanlaw06_PairsBack.j0]
  · rw [if_neg h0]
    by_cases h1 : x1 > 1000
    · rw [if_pos h1]; simp [tartanlaw06_PairsBack.j0]
    · rw [if_neg h1]
      by_cases h2 : x2 > 1000
      · rw [decide_eq_true h2]; simp [tartanlaw06_PairsBack.j0]
      · have ok := okP_of o0 (by omega)
        rw [decide_eq_false h2]
        simp only [tartanlaw06_PairsBack.j0]
        rw [if_neg (by decide), check_some ok, Option.bind_some]
        by_cases hc : checkR x0 x1 x2 = 0
        · have hm := may_iff.1 hc
          have hl := turnR_len x0
          have r1 := restR_le (x0.map (·.f0)) x1.toNat
          have hA := restR_len x1.toNat (x0.map (·.f0)) hm.nd0 (fun x hx => by
            obtain ⟨p, hp, rfl⟩ := List.mem_map.1 hx
            have := hm.all p hp; omega)
          have hB := restR_len x2.toNat (x0.map (·.f1)) hm.nd1 (fun x hx => by
            obtain ⟨p, hp, rfl⟩ := List.mem_map.1 hx
            have := hm.all p hp; omega)
          rw [List.length_map] at hA hB
          have a0 := hm.a0
          have b0 := hm.b0
          have hE : restR (x0.map (·.f0)) x1.toNat = restR ((turnR x0).map (·.f1)) x1.toNat := restR_congr _ _ _ fun i _ => ((turn_f1 x0).count_eq _).symm
          rw [if_pos hc, turn_some (by omega), Option.bind_some, turn_some (by omega), Option.bind_some, hm.back, refSame_some (by omega) (by omega), Option.bind_some, restA_some ok (by omega), Option.bind_some, restB_some (ok_turn ok) (by omega), Option.bind_some,
            refInts_some (by omega) (by omega), Option.bind_some, if_pos trivial, check_some (ok_turn ok), Option.bind_some, may_iff.2 hm.turn, if_pos rfl, if_pos (sameB_refl _), if_pos (decide_eq_true hE), Option.bind_some,
            if_pos (by rw [wrap_in (by omega) (by omega)]; omega), restB_some ok (by omega), Option.bind_some, wrap_in (by omega) (by omega)]
          congr 1
          simp only [beq_iff_eq]
          omega
        · rw [if_neg hc]
end Go.Proofs.Ytphmnjapjalfgaa.X
