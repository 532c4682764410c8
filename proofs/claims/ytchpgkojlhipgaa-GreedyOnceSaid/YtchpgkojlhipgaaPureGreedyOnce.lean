/- GreedyOnce: plain. -/
import Derived.Test.YtchpgkojlhipgaaX9
import Derived.Test.YtchpgkojlhipgaaPGreedyOk
namespace Go.Proofs.Ytchpgkojlhipgaa.X
open Go.RowKit Go.Proofs.YtchpgkojlhipgaaW.PrintWords
set_option linter.unusedVariables false
def inB (l : List SC) (p : PS) : Bool := l.any fun x => x.f0 == p.f0 && x.f1 == p.f1
theorem once_l2 (l : List SC) (p : List PS) (hp : p.length ≤ 60) (i F : Nat) (hi : i < p.length) (hnd : (p.map (·.f0)).Nodup) (H : ∀ k, F < k → tartanlaw10_GreedyOnce.l0 k l true p ((i + 1 : Nat) : Int) = some true) :
    ∀ (d k j : Nat), j + d = i → d + F + 1 < k → tartanlaw10_GreedyOnce.l2 k l true p (i : Nat) (j : Nat) = some true := by
  intro d
  induction d with
  | zero =>
    intro k j hj hk
    obtain ⟨k, rfl⟩ : ∃ m, k = m + 1 := ⟨k - 1, by omega⟩
    simp only [tartanlaw10_GreedyOnce.l2]
    rw [if_neg (by omega), wrap_up _ (by omega)]
    exact H k (by omega)
  | succ d ih =>
    intro k j hj hk
    obtain ⟨k, rfl⟩ : ∃ m, k = m + 1 := ⟨k - 1, by omega⟩
    simp only [tartanlaw10_GreedyOnce.l2]
    rw [if_pos (by omega), if_pos (by omega), if_pos (by omega), if_pos (by omega), if_pos (by omega), if_neg, wrap_up _ (by omega)]
    · exact ih k (j + 1) (by omega) (by omega)
    · rw [rdP_get (by omega), rdP_get hi]
      have h := List.pairwise_iff_getElem.1 hnd j i (by simp; omega) (by simp; omega) (by omega)
      rw [List.getElem_map, List.getElem_map] at h
      exact h
theorem once_l1 (l : List SC) (hl : l.length ≤ 60) (p : List PS) (hp : p.length ≤ 60) (i F : Nat) (hi : i < p.length) (hin : inB l (rd_T32 p (i : Int)) = true) (hpos : 0 ≤ (rd_T32 p (i : Int)).f0 ∧ 0 ≤ (rd_T32 p (i : Int)).f1) (hstr : StrB p)
    (H : ∀ k, F < k → tartanlaw10_GreedyOnce.l2 k l true p (i : Nat) 0 = some true) :
    ∀ (d k j : Nat), j + d = l.length → d + F + 3 < k → tartanlaw10_GreedyOnce.l1 k l true p (i : Nat) (inB (l.take j) (rd_T32 p (i : Int))) (j : Nat) = some true := by
  intro d
  induction d with
  | zero =>
    intro k j hj hk
    obtain ⟨k, rfl⟩ : ∃ m, k = m + 2 := ⟨k - 2, by omega⟩
    simp only [tartanlaw10_GreedyOnce.l1]
    rw [if_neg (by omega), List.take_of_length_le (by omega), hin, if_pos rfl, if_pos (by omega), if_pos (by omega), if_neg (by omega), if_neg (by omega)]
    have hfin : tartanlaw10_GreedyOnce.j2 (k + 1) l true p (i : Nat) false = some true := by
      simp only [tartanlaw10_GreedyOnce.j2]
      rw [if_neg (by decide)]
      exact H k (by omega)
    rcases Nat.eq_zero_or_pos i with z | z
    · rw [if_neg (by omega)]; exact hfin
    · have e1 : wrap64 ((i : Int) - 1) = ((i - 1 : Nat) : Int) := by rw [wrap_in (by omega) (by omega)]; omega
      rw [if_pos (by omega), e1, if_pos (by omega), if_pos (by omega), decide_eq_false]
      · exact hfin
      · rw [rdP_get hi, rdP_get (by omega)]
        have := List.pairwise_iff_getElem.1 hstr (i - 1) i (by omega) hi (by omega)
        omega
  | succ d ih =>
    intro k j hj hk
    obtain ⟨k, rfl⟩ : ∃ m, k = m + 1 := ⟨k - 1, by omega⟩
    have ih' := ih k (j + 1) (by omega) (by omega)
    unfold inB at ih' ⊢
    rw [take_rdC (by omega), List.any_append] at ih'
    simp only [List.any_cons, List.any_nil, Bool.or_false] at ih'
    simp only [tartanlaw10_GreedyOnce.l1]
    rw [if_pos (by omega), wrap_up j (by omega)]
    cases c : (l.take j).any (fun x => x.f0 == (rd_T32 p (i : Int)).f0 && x.f1 == (rd_T32 p (i : Int)).f1)
    · rw [c] at ih'
      rw [if_neg (by decide), if_pos (by omega), if_pos (by omega), if_pos (by omega)]
      by_cases e : (rd_T24 l (j : Int)).f0 = (rd_T32 p (i : Int)).f0
      · rw [if_pos e]
        rw [e] at ih'
        simpa using ih'
      · rw [if_neg e]
        have : ((rd_T24 l (j : Int)).f0 == (rd_T32 p (i : Int)).f0) = false := by simpa using e
        rw [this] at ih'
        simpa using ih'
    · rw [c] at ih'
      rw [if_pos rfl]
      simpa using ih'
theorem once_l0 (l : List SC) (hl : l.length ≤ 60) : ∀ (d k i : Nat), i + d = (pickR l).length → d * 200 < k → tartanlaw10_GreedyOnce.l0 k l true (pickR l) (i : Nat) = some true := by
  have hp := pick_len l
  intro d
  induction d with
  | zero =>
    intro k i hi hk
    obtain ⟨k, rfl⟩ : ∃ m, k = m + 1 := ⟨k - 1, by omega⟩
    simp only [tartanlaw10_GreedyOnce.l0]
    rw [if_neg (by omega)]
  | succ d ih =>
    intro k i hi hk
    obtain ⟨k, rfl⟩ : ∃ m, k = m + 1 := ⟨k - 1, by omega⟩
    obtain ⟨x, hx, e, h0, h1⟩ := pickL_from (mem_pick.1 (rdP_mem (l := pickR l) (t := i) (by omega)))
    simp only [tartanlaw10_GreedyOnce.l0]
    rw [if_pos (by omega)]
    refine once_l1 l hl (pickR l) (by omega) i (d * 200 + 100) (by omega) ?_ (by rw [e]; exact ⟨h0, h1⟩) (pick_str l) (fun k' hk' => once_l2 l (pickR l) (by omega) i (d * 200) (by omega) (pick_nd0 l) (fun k2 hk2 => ih k2 (i + 1) (by omega) hk2) i k' 0 (by omega) (by omega)) l.length k 0 (by omega) (by omega)
    unfold inB
    rw [List.any_eq_true]
    exact ⟨x, hx, by rw [e]; simp⟩
theorem pure_GreedyOnce : ∀ (x0 : List SC), okT22 x0 → ∃ k, tartanlaw10_GreedyOnce.f k x0 = some true := by
  intro x0 o0
  obtain ⟨k, hk⟩ := fuel10
  refine ⟨k + 30, ?_⟩
  unfold tartanlaw10_GreedyOnce.f
  rw [works10, Option.bind_some, if_pos rfl]
  by_cases h0 : (x0.length : Int) > 60
  · rw [if_pos h0]
  · have hp := pick_len x0
    rw [if_neg h0, pick_some (okC_of o0 (by omega)), Option.bind_some]
    exact once_l0 x0 (by omega) (pickR x0).length _ 0 (by omega) (by omega)
end Go.Proofs.Ytchpgkojlhipgaa.X
