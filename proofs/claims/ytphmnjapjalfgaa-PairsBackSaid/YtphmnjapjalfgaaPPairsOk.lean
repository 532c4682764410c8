/- The guards of the laws of layers 6 and 7. -/
import Derived.Test.YtphmnjapjalfgaaPPairs2
import Derived.Test.YtphmnjapjalfgaaROpen
namespace Go.Proofs.Ytphmnjapjalfgaa.X
open Go.RowKit Go.Proofs.YtphmnjapjalfgaaW.PrintWords
theorem okP_of {l : List PS} (h : okT22 l) (hl : l.length ≤ 100000) : okP l = true := by
  unfold okP
  simp only [Bool.and_eq_true, decide_eq_true_eq, List.all_eq_true]
  exact ⟨hl, fun p hp => h.2 p hp⟩
theorem check_some {l : List PS} {na nb : Int} (h : okP l = true) : pairs_Check.f l na nb = some (checkR l na nb) := by unfold pairs_Check.f; rw [if_pos h]
theorem turn_some {l : List PS} (h : l.length ≤ 100000) : pairs_Turn.f l = some (turnR l) := by unfold pairs_Turn.f; rw [if_pos h]
theorem through_some {x y : List PS} (hx : x.length ≤ 100000) (hy : y.length ≤ 100000) : pairs_Through.f x y = some (thr x y) := by unfold pairs_Through.f; rw [if_pos ⟨hx, hy⟩]
theorem still_some {l : List PS} (h : l.length ≤ 100000) : pairs_Still.f l = some (stillR l) := by unfold pairs_Still.f; rw [if_pos h]
theorem restA_some {l : List PS} {na : Int} (h : okP l = true) (hn : na ≤ 100000) : pairs_RestA.f l na = some (restR (l.map (·.f0)) na.toNat) := by unfold pairs_RestA.f; rw [if_pos ⟨h, hn⟩]
theorem restB_some {l : List PS} {na : Int} (h : okP l = true) (hn : na ≤ 100000) : pairs_RestB.f l na = some (restR (l.map (·.f1)) na.toNat) := by unfold pairs_RestB.f; rw [if_pos ⟨h, hn⟩]
theorem fuel6 : ∃ k : Nat, 200000 ≤ k := ⟨200000, Nat.le_refl _⟩
end Go.Proofs.Ytphmnjapjalfgaa.X
