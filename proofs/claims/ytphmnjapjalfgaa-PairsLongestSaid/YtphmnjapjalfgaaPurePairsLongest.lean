/- PairsLongest: plain. -/
import Derived.Test.YtphmnjapjalfgaaX16
import Derived.Test.YtphmnjapjalfgaaPPairsBest
namespace Go.Proofs.Ytphmnjapjalfgaa.X
open Go.RowKit Go.Proofs.YtphmnjapjalfgaaW.PrintWords
set_option linter.unusedVariables false
abbrev toI (out : List Nat) : List Int := out.map fun n : Nat => (n : Int)
theorem rd_toI (out : List Nat) (j : Nat) : rd (toI out) (j : Int) = ((out.getD j 0 : Nat) : Int) := by
  unfold rd
  rw [show ((j : Int)).toNat = j from rfl, List.getD_eq_getElem?_getD, List.getElem?_map, List.getD_eq_getElem?_getD]
  cases out[j]? <;> rfl
theorem longest_l0 (l : List PS) (hl : l.length ≤ 60) (c : List Int) (out : List Nat) (ho : Rises l out) (hlen : out.length ≤ 60) (F : Nat) (H : ∀ k', F < k' → tartanlaw06_PairsLongest.l1 k' l c true (toI out) 0 = some true) :
    ∀ (d k i : Nat), i + d = out.length → d + F + 1 < k → tartanlaw06_PairsLongest.l0 k l c true (toI out) (i : Nat) = some true := by
  have hm : (toI out).length = out.length := by simp
  intro d
  induction d with
  | zero =>
    intro k i hi hk
    obtain ⟨k, rfl⟩ : ∃ m, k = m + 1 := ⟨k - 1, by omega⟩
    simp only [tartanlaw06_PairsLongest.l0]
    rw [if_neg (by omega)]
    exact H k (by omega)
  | succ d ih =>
    intro k i hi hk
    obtain ⟨k, rfl⟩ : ∃ m, k = m + 1 := ⟨k - 1, by omega⟩
    have h1 := ho i (by omega)
    have ih' := ih k (i + 1) (by omega) (by omega)
    simp only [tartanlaw06_PairsLongest.l0]
    rw [if_pos (by omega), if_pos (by omega), rd_toI, if_neg (by omega), if_neg (by omega), wrap_up _ (by omega), ih']
    rcases Nat.eq_zero_or_pos i with z | z
    · rw [if_neg (by omega)]
    · have h2 := ho (i - 1) (by omega)
      have e1 : wrap64 ((i : Int) - 1) = ((i - 1 : Nat) : Int) := by rw [wrap_in (by omega) (by omega)]; omega
      rcases h1.2 with h3 | ⟨h3, h4⟩
      · omega
      · unfold Av at h4
        rw [if_pos (by omega), e1, rd_toI, if_pos (by omega), if_pos (by omega), if_neg (by omega), if_pos (by omega), if_pos (by omega), if_pos (by omega), if_pos (by omega), if_neg (by omega)]
theorem longest_l2 (c : List Int) (out : List Nat) (hc : c.length = out.length) (hlen : out.length ≤ 60)
    (hb : ∀ j, j < out.length → (∀ j', j' < j → ((out.getD j' 0 : Nat) : Int) = rd c (j' : Int)) → ((out.getD j 0 : Nat) : Int) ≤ rd c (j : Int)) :
    ∀ (d k i : Nat), i + d = out.length → d < k → (∀ j', j' < i → ((out.getD j' 0 : Nat) : Int) = rd c (j' : Int)) → tartanlaw06_PairsLongest.l2 k c true (toI out) (i : Nat) = some true := by
  have hm : (toI out).length = out.length := by simp
  intro d
  induction d with
  | zero =>
    intro k i hi hk h
    obtain ⟨k, rfl⟩ : ∃ m, k = m + 1 := ⟨k - 1, by omega⟩
    simp only [tartanlaw06_PairsLongest.l2]
    rw [if_neg (by omega)]
  | succ d ih =>
    intro k i hi hk h
    obtain ⟨k, rfl⟩ : ∃ m, k = m + 1 := ⟨k - 1, by omega⟩
    have h1 := hb i (by omega) h
    simp only [tartanlaw06_PairsLongest.l2]
    rw [if_pos (by omega), if_pos (by omega), if_pos (by omega), rd_toI]
    by_cases e : ((out.getD i 0 : Nat) : Int) = rd c (i : Int)
    · rw [if_pos e, wrap_up _ (by omega)]
      refine ih k (i + 1) (by omega) (by omega) fun j' hj' => ?_
      rcases Nat.lt_or_ge j' i with h3 | h3
      · exact h j' h3
      · obtain rfl : j' = i := by omega
        exact e
    · rw [if_neg e, if_pos trivial]
      congr 1
      exact decide_eq_true (by omega)
theorem longest_l1 (l : List PS) (hl : l.length ≤ 60) (c : List Int) (hcl : c.length ≤ 60) (out : List Nat) (hlen : out.length ≤ 60)
    (hbest : ∀ cN, Rises l cN → cN.length ≤ out.length ∧ (cN.length = out.length → ∀ j, j < out.length → (∀ j', j' < j → out.getD j' 0 = cN.getD j' 0) → out.getD j 0 ≤ cN.getD j 0)) :
    ∀ (d k i : Nat), i + d = c.length → d + 62 < k →
      (∀ j, j < i → (0 ≤ rd c (j : Int) ∧ rd c (j : Int) < (l.length : Int)) ∧ (j = 0 ∨ (rd c ((j - 1 : Nat) : Int) < rd c (j : Int) ∧ (rd_T37 l (rd c ((j - 1 : Nat) : Int))).f0 < (rd_T37 l (rd c (j : Int))).f0))) →
      tartanlaw06_PairsLongest.l1 k l c true (toI out) (i : Nat) = some true := by
  have hm : (toI out).length = out.length := by simp
  intro d
  induction d with
  | zero =>
    intro k i hi hk h
    obtain ⟨k, rfl⟩ : ∃ m, k = m + 1 := ⟨k - 1, by omega⟩
    obtain rfl : i = c.length := by omega
    have hget : ∀ j, j < c.length → (((c.map Int.toNat).getD j 0 : Nat) : Int) = rd c (j : Int) := by
      intro j hj
      have h0 := (h j hj).1.1
      have e1 : rd c (j : Int) = c[j] := by unfold rd; rw [show ((j : Int)).toNat = j from rfl, List.getD_eq_getElem?_getD, List.getElem?_eq_getElem hj]; rfl
      have e2 : (c.map Int.toNat).getD j 0 = (c[j]).toNat := by rw [List.getD_eq_getElem?_getD, List.getElem?_map, List.getElem?_eq_getElem hj]; rfl
      rw [e1] at h0 ⊢
      rw [e2]
      omega
    have hR : Rises l (c.map Int.toNat) := by
      intro j hj
      rw [List.length_map] at hj
      have h1 := h j hj
      have g1 := hget j hj
      refine ⟨by omega, ?_⟩
      rcases h1.2 with h2 | ⟨h2, h3⟩
      · exact .inl h2
      · rcases Nat.eq_zero_or_pos j with z | z
        · exact .inl z
        · have g2 := hget (j - 1) (by omega)
          refine .inr ⟨by omega, ?_⟩
          unfold Av
          rw [g1, g2]; exact h3
    have hb := hbest _ hR
    rw [List.length_map] at hb
    simp only [tartanlaw06_PairsLongest.l1]
    rw [if_neg (by omega), if_neg (by omega)]
    by_cases hs : (c.length : Int) < ((toI out).length : Int)
    · rw [if_pos hs]
    · rw [if_neg hs]
      have hce : c.length = out.length := by omega
      refine longest_l2 c out hce hlen (fun j hj hp => ?_) out.length k 0 (by omega) (by omega) (fun j' h => by omega)
      have h5 := hb.2 hce j hj (fun j' hj' => by
        have := hp j' hj'
        have := hget j' (by omega)
        omega)
      have := hget j (by omega)
      omega
  | succ d ih =>
    intro k i hi hk h
    obtain ⟨k, rfl⟩ : ∃ m, k = m + 1 := ⟨k - 1, by omega⟩
    have ih' := ih k (i + 1) (by omega) (by omega)
    simp only [tartanlaw06_PairsLongest.l1]
    rw [if_pos (by omega), if_pos (by omega)]
    by_cases c0 : rd c (i : Int) < 0
    · rw [if_pos c0]
    · rw [if_neg c0]
      by_cases c1 : rd c (i : Int) ≥ (l.length : Int)
      · rw [if_pos c1]
      · rw [if_neg c1, wrap_up _ (by omega)]
        have ext : (i = 0 ∨ (rd c ((i - 1 : Nat) : Int) < rd c (i : Int) ∧ (rd_T37 l (rd c ((i - 1 : Nat) : Int))).f0 < (rd_T37 l (rd c (i : Int))).f0)) → tartanlaw06_PairsLongest.l1 k l c true (toI out) ((i + 1 : Nat) : Int) = some true := by
          intro hx
          refine ih' fun j hj => ?_
          rcases Nat.lt_or_ge j i with h3 | h3
          · exact h j h3
          · obtain rfl : j = i := by omega
            exact ⟨⟨by omega, by omega⟩, hx⟩
        rcases Nat.eq_zero_or_pos i with z | z
        · rw [if_neg (by omega)]
          exact ext (.inl z)
        · have e1 : wrap64 ((i : Int) - 1) = ((i - 1 : Nat) : Int) := by rw [wrap_in (by omega) (by omega)]; omega
          have hp := (h (i - 1) (by omega)).1
          rw [if_pos (by omega), e1, if_pos (by omega), if_pos (by omega)]
          by_cases c2 : rd c (i : Int) ≤ rd c ((i - 1 : Nat) : Int)
          · rw [if_pos c2]
          · rw [if_neg c2, if_pos (by omega), if_pos (by omega), if_pos (by omega), if_pos (by omega)]
            by_cases c3 : (rd_T37 l (rd c (i : Int))).f0 ≤ (rd_T37 l (rd c ((i - 1 : Nat) : Int))).f0
            · rw [if_pos c3]
            · rw [if_neg c3]
              exact ext (.inr ⟨by omega, by omega⟩)
theorem pure_PairsLongest : ∀ (x0 : List PS) (x1 : List Int), okT22 x0 → okT31 x1 → ∃ k, tartanlaw06_PairsLongest.f k x0 x1 = some true := by
  intro x0 x1 o0 o1
  obtain ⟨k, hk⟩ := fuel6
  refine ⟨k + 30, ?_⟩
  unfold tartanlaw06_PairsLongest.f
  rw [works06, Option.bind_some, if_pos rfl]
  by_cases h0 : (x0.length : Int) > 60
  · rw [if_pos h0]; simp [tartanlaw06_PairsLongest.j0]
  · rw [if_neg h0]
    by_cases h1 : (x1.length : Int) > 60
    · rw [decide_eq_true h1]; simp [tartanlaw06_PairsLongest.j0]
    · rw [decide_eq_false h1]
      obtain ⟨out, e, hR, hB⟩ := still_best x0
      have hs := still_len x0
      rw [e, List.length_map] at hs
      simp only [tartanlaw06_PairsLongest.j0]
      rw [if_neg (by decide), still_some (by omega), Option.bind_some, e]
      exact longest_l0 x0 (by omega) x1 out hR (by omega) 200 (fun k' hk' => longest_l1 x0 (by omega) x1 (by omega) out (by omega) hB x1.length k' 0 (by omega) (by omega) (fun j hj => by omega)) out.length _ 0 (by omega) (by omega)
end Go.Proofs.Ytphmnjapjalfgaa.X
