/- GreedyTurns: plain. -/
import Derived.Test.YtchpgkojlhipgaaX11
import Derived.Test.YtchpgkojlhipgaaPGreedyOk
namespace Go.Proofs.Ytchpgkojlhipgaa.X
open Go.RowKit Go.Proofs.YtchpgkojlhipgaaW.PrintWords
set_option linter.unusedVariables false
theorem turns_perm (xs : List SC) {j i : Nat} (hj : j < xs.length) (hi : i < xs.length) : ((xs.set j (rd_T24 xs (i : Int))).set i (rd_T24 xs (j : Int))).Perm xs := by
  rw [rdC_get hj, rdC_get hi]
  exact List.set_set_perm hj hi
theorem turns_l0 (l : List SC) (hl : l.length ≤ 60) (hl0 : 0 < l.length) (hok : okC l = true) (ts : List Int) (hts : ∀ t ∈ ts, 0 ≤ t ∧ t ≤ 255) (htl : ts.length ≤ 60) : ∀ (d k i : Nat) (x : List SC), i + d = ts.length → d + 100 < k → x.Perm l →
    tartanlaw10_GreedyTurns.l0 k l ts true x (i : Nat) = some true := by
  intro d
  induction d with
  | zero =>
    intro k i x hi hk hx
    obtain ⟨k, rfl⟩ : ∃ m, k = m + 1 := ⟨k - 1, by omega⟩
    have hp := pick_len l
    have okx : okC x = true := by
      unfold okC
      simp only [Bool.and_eq_true, decide_eq_true_eq, List.all_eq_true]
      exact ⟨by rw [hx.length_eq]; omega, fun p hp => okC_mem hok p (hx.mem_iff.1 hp)⟩
    simp only [tartanlaw10_GreedyTurns.l0]
    rw [if_neg (by omega), pick_some okx, Option.bind_some, pick_some hok, Option.bind_some, pick_perm hx, refSame_some (by omega) (by omega), Option.bind_some, if_pos trivial, sameB_refl]
  | succ d ih =>
    intro k i x hi hk hx
    obtain ⟨k, rfl⟩ : ∃ m, k = m + 1 := ⟨k - 1, by omega⟩
    have hxl := hx.length_eq
    have hm : rd ts (i : Int) ∈ ts := by
      unfold rd
      rw [show ((i : Int)).toNat = i from rfl, List.getD_eq_getElem?_getD, List.getElem?_eq_getElem (by omega)]
      exact List.getElem_mem _
    obtain ⟨t, ht⟩ : ∃ t : Nat, rd ts (i : Int) = (t : Int) := ⟨(rd ts (i : Int)).toNat, by have := (hts _ hm).1; omega⟩
    have ht2 := (hts _ hm).2
    rw [ht] at ht2
    have e1 : Int.tmod (wrap64 (rd ts (i : Int))) (l.length : Int) = ((t % l.length : Nat) : Int) := by rw [ht, wrap_in (by omega) (by omega)]; exact (Int.ofNat_tmod t l.length).symm
    have e2 : Int.tmod (i : Int) (l.length : Int) = ((i % l.length : Nat) : Int) := (Int.ofNat_tmod i l.length).symm
    have m1 := Nat.mod_lt t hl0
    have m2 := Nat.mod_lt i hl0
    simp only [tartanlaw10_GreedyTurns.l0]
    rw [if_pos (by omega), if_pos (by omega), if_neg (by omega), e1, e2, if_pos (by omega), if_pos (by omega), if_pos (by omega), if_pos (by omega), wrap_up _ (by omega)]
    refine ih k (i + 1) _ (by omega) (by omega) ?_
    exact (turns_perm x (j := t % l.length) (i := i % l.length) (by omega) (by omega)).trans hx
theorem pure_GreedyTurns : ∀ (x0 : List SC) (x1 : List Int), okT22 x0 → okT35 x1 → ∃ k, tartanlaw10_GreedyTurns.f k x0 x1 = some true := by
  intro x0 x1 o0 o1
  obtain ⟨k, hk⟩ := fuel10
  refine ⟨k + 30, ?_⟩
  unfold tartanlaw10_GreedyTurns.f
  rw [works10, Option.bind_some, if_pos rfl]
  by_cases h0 : (x0.length : Int) > 60
  · rw [if_pos h0]; simp [tartanlaw10_GreedyTurns.j0]
  · rw [if_neg h0]
    by_cases h1 : (x0.length : Int) = 0
    · rw [if_pos h1]; simp [tartanlaw10_GreedyTurns.j0]
    · rw [if_neg h1]
      by_cases h2 : (x1.length : Int) > 60
      · rw [decide_eq_true h2]; simp [tartanlaw10_GreedyTurns.j0]
      · rw [decide_eq_false h2]
        simp only [tartanlaw10_GreedyTurns.j0]
        rw [if_neg (by decide), Option.bind_some, if_pos (by simp; omega), List.nil_append]
        exact turns_l0 x0 (by omega) (by omega) (okC_of o0 (by omega)) x1 (fun t ht => by
          have := o1.2 t ht
          unfold okT5 at this
          simp [Lit.wf, IntKind.min, IntKind.max, IntKind.signed, IntKind.bits] at this
          omega) (by omega) x1.length _ 0 x0 (by omega) (by omega) (List.Perm.refl _)
end Go.Proofs.Ytchpgkojlhipgaa.X
