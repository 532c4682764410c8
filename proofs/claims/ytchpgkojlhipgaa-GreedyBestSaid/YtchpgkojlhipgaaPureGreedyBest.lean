/- GreedyBest: plain. -/
import Derived.Test.YtchpgkojlhipgaaX10
import Derived.Test.YtchpgkojlhipgaaPGreedyOk
namespace Go.Proofs.Ytchpgkojlhipgaa.X
open Go.RowKit Go.Proofs.YtchpgkojlhipgaaW.PrintWords
set_option linter.unusedVariables false
/-- The inner search: a choice that was taken, and is better. -/
theorem best_l2 (l : List SC) (hl : l.length ≤ 60) (p : List PS) (hp : p.length ≤ 60) (x : SC) (i F : Nat) (hi : i < p.length)
    (H : (¬ ∃ y ∈ l, (⟨y.f0, y.f1⟩ : PS) = rd_T32 p (i : Int) ∧ Bet y x) → ∀ k, F < k → tartanlaw10_GreedyBest.l1 k l true p ((i + 1 : Nat) : Int) x.f0 x.f1 x.f2 = some true) :
    ∀ (d k j : Nat), j + d = l.length → d + F + 10 < k → (∀ j', j' < j → ¬ ((⟨(rd_T24 l (j' : Int)).f0, (rd_T24 l (j' : Int)).f1⟩ : PS) = rd_T32 p (i : Int) ∧ Bet (rd_T24 l (j' : Int)) x)) → tartanlaw10_GreedyBest.l2 k l true p (i : Nat) (j : Nat) x.f0 x.f1 x.f2 = some true := by
  intro d
  induction d with
  | zero =>
    intro k j hj hk hno
    obtain ⟨k, rfl⟩ : ∃ m, k = m + 1 := ⟨k - 1, by omega⟩
    simp only [tartanlaw10_GreedyBest.l2]
    rw [if_neg (by omega), wrap_up _ (by omega)]
    refine H ?_ k (by omega)
    rintro ⟨y, hy, e⟩
    obtain ⟨j', hj', rfl⟩ := List.getElem_of_mem hy
    refine hno j' (by omega) ?_
    rw [rdC_get hj']
    exact e
  | succ d ih =>
    intro k j hj hk hno
    obtain ⟨k, rfl⟩ : ∃ m, k = m + 6 := ⟨k - 6, by omega⟩
    have ih' := fun (hx : ¬ ((⟨(rd_T24 l (j : Int)).f0, (rd_T24 l (j : Int)).f1⟩ : PS) = rd_T32 p (i : Int) ∧ Bet (rd_T24 l (j : Int)) x)) => ih (k + 5) (j + 1) (by omega) (by omega) (fun j' hj' => by
      rcases Nat.lt_or_ge j' j with h | h
      · exact hno j' h
      · obtain rfl : j' = j := by omega
        exact hx)
    simp only [tartanlaw10_GreedyBest.l2]
    rw [if_pos (by omega), if_pos (by omega), if_pos (by omega), if_pos (by omega), wrap_up j (by omega)]
    by_cases e0 : (rd_T24 l (j : Int)).f0 = (rd_T32 p (i : Int)).f0
    · rw [if_pos e0]
      by_cases e1 : (rd_T24 l (j : Int)).f1 = (rd_T32 p (i : Int)).f1
      · rw [if_pos e1, better_some, Option.bind_some]
        by_cases b : Bet (rd_T24 l (j : Int)) x
        · rw [if_pos (decide_eq_true b)]
        · rw [if_neg (by simpa using b)]
          exact ih' (fun h => b h.2)
      · rw [if_neg e1]
        exact ih' (fun h => e1 (by rw [← h.1]))
    · rw [if_neg e0]
      exact ih' (fun h => e0 (by rw [← h.1]))
theorem best_l1 (l : List SC) (hl : l.length ≤ 60) (p : List PS) (hp : p.length ≤ 60) (x : SC) (z : PS) (hz : z ∈ p) (hzx : z.f0 = x.f0 ∨ z.f1 = x.f1) (hy : ∃ y ∈ l, z = ⟨y.f0, y.f1⟩ ∧ Bet y x) :
    ∀ (d k i : Nat), i + d = p.length → d * 200 + 100 < k → (∀ i', i' < i → rd_T32 p (i' : Int) ≠ z) → tartanlaw10_GreedyBest.l1 k l true p (i : Nat) x.f0 x.f1 x.f2 = some true := by
  intro d
  induction d with
  | zero =>
    intro k i hi hk hno
    exfalso
    obtain ⟨i', hi', e⟩ := List.getElem_of_mem hz
    exact hno i' (by omega) (by rw [rdP_get hi']; exact e)
  | succ d ih =>
    intro k i hi hk hno
    obtain ⟨k, rfl⟩ : ∃ m, k = m + 2 := ⟨k - 2, by omega⟩
    have next : rd_T32 p (i : Int) ≠ z → ∀ k', d * 200 + 100 < k' → tartanlaw10_GreedyBest.l1 k' l true p ((i + 1 : Nat) : Int) x.f0 x.f1 x.f2 = some true := by
      intro hne k' hk'
      refine ih k' (i + 1) (by omega) hk' fun i' hi' => ?_
      rcases Nat.lt_or_ge i' i with h | h
      · exact hno i' h
      · obtain rfl : i' = i := by omega
        exact hne
    have look : tartanlaw10_GreedyBest.j3 (k + 1) l true p (i : Nat) false x.f0 x.f1 x.f2 = some true := by
      simp only [tartanlaw10_GreedyBest.j3]
      rw [if_neg (by decide)]
      refine best_l2 l hl p hp x i (d * 200 + 100) (by omega) (fun hn k' hk' => next ?_ k' hk') l.length k 0 (by omega) (by omega) (fun j' h => by omega)
      intro e
      obtain ⟨y, hy1, hy2, hy3⟩ := hy
      exact hn ⟨y, hy1, by rw [e]; exact hy2.symm, hy3⟩
    simp only [tartanlaw10_GreedyBest.l1]
    rw [if_pos (by omega), if_pos (by omega)]
    by_cases e0 : (rd_T32 p (i : Int)).f0 = x.f0
    · rw [if_pos e0]; exact look
    · rw [if_neg e0]
      by_cases e1 : (rd_T32 p (i : Int)).f1 = x.f1
      · have : ((rd_T32 p (i : Int)).f1 != x.f1) = false := by simpa using e1
        rw [this]; exact look
      · have : ((rd_T32 p (i : Int)).f1 != x.f1) = true := by simpa using e1
        rw [this]
        simp only [tartanlaw10_GreedyBest.j3]
        rw [if_pos trivial, wrap_up _ (by omega)]
        exact next (fun h => by rw [h] at e0 e1; exact hzx.elim e0 e1) k (by omega)
theorem best_l0 (l : List SC) (hl : l.length ≤ 60) (x : SC) (hx : x ∈ l) (h0 : 0 ≤ x.f0) (h1 : 0 ≤ x.f1) : ∀ (d k i : Nat), i + d = (pickR l).length → d + 20000 < k → (∀ i', i' < i → rd_T32 (pickR l) (i' : Int) ≠ ⟨x.f0, x.f1⟩) →
    tartanlaw10_GreedyBest.l0 k l true (pickR l) (i : Nat) x.f0 x.f1 x.f2 = some true := by
  have hp := pick_len l
  intro d
  induction d with
  | zero =>
    intro k i hi hk hno
    obtain ⟨k, rfl⟩ : ∃ m, k = m + 1 := ⟨k - 1, by omega⟩
    simp only [tartanlaw10_GreedyBest.l0]
    rw [if_neg (by omega)]
    have hn : (⟨x.f0, x.f1⟩ : PS) ∉ pickR l := by
      intro h
      obtain ⟨i', hi', e⟩ := List.getElem_of_mem h
      exact hno i' (by omega) (by rw [rdP_get hi']; exact e)
    obtain ⟨z, hz, e, y, hy, ey, hb⟩ := pick_best hx h0 h1 hn
    exact best_l1 l hl (pickR l) (by omega) x z hz e ⟨y, hy, ey, hb⟩ (pickR l).length k 0 (by omega) (by omega) (fun i' h => by omega)
  | succ d ih =>
    intro k i hi hk hno
    obtain ⟨k, rfl⟩ : ∃ m, k = m + 1 := ⟨k - 1, by omega⟩
    have ih' := fun (hne : rd_T32 (pickR l) (i : Int) ≠ ⟨x.f0, x.f1⟩) => ih k (i + 1) (by omega) (by omega) (fun i' hi' => by
      rcases Nat.lt_or_ge i' i with h | h
      · exact hno i' h
      · obtain rfl : i' = i := by omega
        exact hne)
    simp only [tartanlaw10_GreedyBest.l0]
    rw [if_pos (by omega), if_pos (by omega), wrap_up _ (by omega)]
    by_cases e0 : (rd_T32 (pickR l) (i : Int)).f0 = x.f0
    · rw [if_pos e0]
      by_cases e1 : (rd_T32 (pickR l) (i : Int)).f1 = x.f1
      · rw [if_pos e1]
      · rw [if_neg e1]
        exact ih' (fun h => e1 (by rw [h]))
    · rw [if_neg e0]
      exact ih' (fun h => e0 (by rw [h]))
theorem pure_GreedyBest : ∀ (x0 : List SC) (x1 : Int), okT22 x0 → okT3 x1 → ∃ k, tartanlaw10_GreedyBest.f k x0 x1 = some true := by
  intro x0 x1 o0 o1
  obtain ⟨k, hk⟩ := fuel10
  refine ⟨k + 30, ?_⟩
  unfold tartanlaw10_GreedyBest.f
  rw [works10, Option.bind_some, if_pos rfl]
  by_cases h0 : (x0.length : Int) > 60
  · rw [if_pos h0]; simp [tartanlaw10_GreedyBest.j0]
  · rw [if_neg h0]
    by_cases h1 : x1 < 0
    · rw [if_pos h1]; simp [tartanlaw10_GreedyBest.j0]
    · rw [if_neg h1]
      by_cases h2 : x1 ≥ (x0.length : Int)
      · rw [if_pos h2]; simp [tartanlaw10_GreedyBest.j0]
      · obtain ⟨n, rfl⟩ : ∃ n : Nat, x1 = (n : Int) := ⟨x1.toNat, by omega⟩
        rw [if_neg h2, if_pos (by omega), if_pos (by omega)]
        by_cases h3 : (rd_T24 x0 (n : Int)).f0 < 0
        · rw [if_pos h3]; simp [tartanlaw10_GreedyBest.j0]
        · rw [if_neg h3]
          by_cases h4 : (rd_T24 x0 (n : Int)).f1 < 0
          · rw [decide_eq_true h4]; simp [tartanlaw10_GreedyBest.j0]
          · rw [decide_eq_false h4]
            have hp := pick_len x0
            simp only [tartanlaw10_GreedyBest.j0]
            rw [if_neg (by decide), if_pos (by omega), if_pos (by omega), pick_some (okC_of o0 (by omega)), Option.bind_some]
            exact best_l0 x0 (by omega) (rd_T24 x0 (n : Int)) (rdC_mem (by omega)) (by omega) (by omega) (pickR x0).length _ 0 (by omega) (by omega) (fun i' h => by omega)
end Go.Proofs.Ytchpgkojlhipgaa.X
