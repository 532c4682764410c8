/- The reference's Still and Check compute what the program's compute. -/
import Derived.Test.YtphmnjapjalfgaaPPairs
import Derived.Test.YtphmnjapjalfgaaGPairs5
namespace Go.Proofs.Ytphmnjapjalfgaa.X
open Go.RowKit Go.Proofs.YtphmnjapjalfgaaW.PrintWords
set_option linter.unusedVariables false

theorem mx_max (a b : Int) : mx a b = max a b := by unfold mx; split <;> omega
theorem refStill_l0 (l : List PS) (ns : List Int) (hn : ns.length ≤ 100000) (r : Option (List Int)) (F : Nat) (want0 : Int) (H : ∀ k', F < k' → tartanref06_Still.l1 k' l ns want0 [] 0 = r) :
    ∀ (d k i : Nat) (want : Int), i + d = ns.length → d + F + 1 < k → (ns.drop i).foldl max want = want0 → tartanref06_Still.l0 k l ns want (i : Nat) = r := by
  intro d
  induction d with
  | zero =>
    intro k i want hi hk hw
    obtain ⟨k, rfl⟩ : ∃ m, k = m + 1 := ⟨k - 1, by omega⟩
    rw [List.drop_eq_nil_of_le (by omega)] at hw
    simp only [tartanref06_Still.l0]
    rw [if_neg (by omega)]
    simp only [List.foldl_nil] at hw
    rw [hw]; exact H k (by omega)
  | succ d ih =>
    intro k i want hi hk hw
    obtain ⟨k, rfl⟩ : ∃ m, k = m + 1 := ⟨k - 1, by omega⟩
    rw [dropI (by omega), List.foldl_cons] at hw
    simp only [tartanref06_Still.l0]
    rw [if_pos (by omega), if_pos (by omega), wrap_up _ (by omega), mx_max]
    exact ih k (i + 1) _ (by omega) (by omega) hw
theorem refStill_l1 (l : List PS) (hl : l.length ≤ 100000) : ∀ (d k i : Nat), i + d = l.length → d < k → tartanref06_Still.l1 k l (lngI l) (stAt l i).1 (stAt l i).2 (i : Nat) = some (stillR l) := by
  have hL := lngI_len l
  intro d
  induction d with
  | zero =>
    intro k i hi hk
    obtain ⟨k, rfl⟩ : ∃ m, k = m + 1 := ⟨k - 1, by omega⟩
    simp only [tartanref06_Still.l1]
    rw [if_neg (by omega)]
    obtain rfl : i = l.length := by omega
    rfl
  | succ d ih =>
    intro k i hi hk
    obtain ⟨k, rfl⟩ : ∃ m, k = m + 1 := ⟨k - 1, by omega⟩
    have ih' := ih k (i + 1) (by omega) (by omega)
    have hlen := stAt_len l i
    have hmem := stAt_mem l i
    have hp := lngI_pos l (t := i) (by omega)
    have hq := lngI_le l (t := i) (by omega)
    rw [stAt_succ] at ih'
    unfold stepS at ih'
    generalize hst : stAt l i = st at *
    obtain ⟨want, out⟩ := st
    simp only at *
    simp only [tartanref06_Still.l1]
    rw [if_pos (by omega)]
    by_cases h0 : out.length = 0
    · rw [if_pos (by omega), if_pos (by omega), if_pos (by omega)]
      by_cases h1 : rd (lngI l) (i : Int) = want
      · rw [if_pos ⟨h1, .inl h0⟩] at ih'
        rw [if_pos h1, if_pos (by omega), if_pos (by omega), wrap_up _ (by omega), wrap_in (n := want - 1) (by omega) (by omega)]
        exact ih'
      · rw [if_neg (fun h => h1 h.1)] at ih'
        rw [if_neg h1, wrap_up _ (by omega)]
        exact ih'
    · have hk1 : out.length - 1 < out.length := by omega
      have hrm : rd out ((out.length - 1 : Nat) : Int) ∈ out := by
        unfold rd
        rw [show (((out.length - 1 : Nat) : Int)).toNat = out.length - 1 from rfl, List.getD_eq_getElem?_getD, List.getElem?_eq_getElem hk1]
        exact List.getElem_mem _
      obtain ⟨hj0, hj1⟩ := hmem _ hrm
      have e1 : wrap64 ((out.length : Int) - 1) = ((out.length - 1 : Nat) : Int) := by rw [wrap_in (by omega) (by omega)]; omega
      rw [if_neg (by omega), if_pos (by omega), e1, if_pos (by omega), if_pos (by omega), if_pos (by omega), if_pos (by omega), if_pos (by omega)]
      by_cases h1 : rd (lngI l) (i : Int) = want
      · rw [if_pos h1]
        by_cases h2 : (rd_T37 l (rd out ((out.length - 1 : Nat) : Int))).f0 < (rd_T37 l (i : Int)).f0
        · rw [if_pos ⟨h1, .inr h2⟩] at ih'
          rw [if_pos h2, if_pos (by omega), if_pos (by omega), wrap_up _ (by omega), wrap_in (n := want - 1) (by omega) (by omega)]
          exact ih'
        · rw [if_neg (fun h => h.2.elim h0 h2)] at ih'
          rw [if_neg h2, wrap_up _ (by omega)]
          exact ih'
      · rw [if_neg (fun h => h1 h.1)] at ih'
        rw [if_neg h1, wrap_up _ (by omega)]
        exact ih'
theorem fold_max0 (xs : List Int) (h : ∀ x ∈ xs, 0 ≤ x) : xs.foldl max 0 = if xs.length = 0 then 0 else xs.foldl max (rd xs 0) := by
  cases xs with
  | nil => rfl
  | cons x t =>
    have := h x List.mem_cons_self
    rw [if_neg (by simp)]
    show t.foldl max (max 0 x) = t.foldl max (max x x)
    rw [show max 0 x = x from by omega, show max x x = x from by omega]
theorem lngI_nonneg (l : List PS) : ∀ x ∈ lngI l, 0 ≤ x := by
  intro x hx
  unfold lngI at hx
  obtain ⟨n, _, rfl⟩ := List.mem_map.1 hx
  omega
theorem refStill_some {l : List PS} (hl : l.length ≤ 100000) {k : Nat} (hk : l.length * (l.length + 3) + 2 * l.length + 2 < k) : tartanref06_Still.f k l = some (stillR l) := by
  unfold tartanref06_Still.f
  rw [refLong_some l hl (by omega), Option.bind_some]
  have hL := lngI_len l
  by_cases h : l.length = 0
  · obtain rfl := List.eq_nil_of_length_eq_zero h
    refine refStill_l0 [] (lngI []) (by omega) _ 1 0 (fun k' hk' => ?_) 0 k 0 0 (by simp [lngI_len]) (by simp at hk; omega) rfl
    obtain ⟨k', rfl⟩ : ∃ m, k' = m + 1 := ⟨k' - 1, by omega⟩
    simp only [tartanref06_Still.l1]
    rw [if_neg (by simp)]; rfl
  · refine refStill_l0 l (lngI l) (by omega) _ (l.length) ((lngI l).foldl max (rd (lngI l) 0)) (fun k' hk' => ?_) l.length k 0 0 (by omega) (by omega) ?_
    · exact refStill_l1 l hl l.length k' 0 (by omega) (by omega)
    · rw [List.drop_zero, fold_max0 _ (lngI_nonneg l), if_neg (by omega)]
theorem still_len (l : List PS) : (stillR l).length ≤ l.length := stAt_len l l.length

/-- Whether they may be pairs. -/
theorem rdP_get {l : List PS} {i : Nat} (h : i < l.length) : rd_T37 l (i : Int) = l[i] := by
  unfold rd_T37
  rw [show ((i : Int)).toNat = i from rfl, List.getD_eq_getElem?_getD, List.getElem?_eq_getElem h]; rfl
section
variable {l : List PS} {na nb : Int}
theorem chk11 (h0 : ¬ (na < 0 ∨ nb < 0)) {i : Nat} (hi : i < l.length) (hn : inP na nb (rd_T37 l (i : Int)) = false) : checkR l na nb = 11 := by
  unfold checkR
  rw [if_neg h0, if_pos]
  rw [List.all_eq_false]
  exact ⟨_, rdP_mem hi, by rw [hn]; decide⟩
theorem chk10 (h0 : ¬ (na < 0 ∨ nb < 0)) (hall : l.all (inP na nb) = true) {j i : Nat} (hij : j < i) (hi : i < l.length)
    (h : (rd_T37 l (j : Int)).f0 = (rd_T37 l (i : Int)).f0 ∨ (rd_T37 l (j : Int)).f1 = (rd_T37 l (i : Int)).f1) : checkR l na nb = 10 := by
  unfold checkR
  rw [if_neg h0, if_neg (by rw [hall]; decide), if_pos]
  rintro ⟨n0, n1⟩
  rw [rdP_get hi, rdP_get (Nat.lt_trans hij hi)] at h
  rcases h with h | h
  · exact (List.pairwise_iff_getElem.1 n0) j i (by simp; omega) (by simp; omega) hij (by simpa using h)
  · exact (List.pairwise_iff_getElem.1 n1) j i (by simp; omega) (by simp; omega) hij (by simpa using h)
theorem chk12 (h0 : ¬ (na < 0 ∨ nb < 0)) (hall : l.all (inP na nb) = true) (hnd : (l.map (·.f0)).Nodup ∧ (l.map (·.f1)).Nodup) {i : Nat} (hi : i + 1 < l.length)
    (h : (rd_T37 l ((i + 1 : Nat) : Int)).f1 < (rd_T37 l (i : Int)).f1) : checkR l na nb = 12 := by
  unfold checkR
  rw [if_neg h0, if_neg (by rw [hall]; decide), if_neg (fun h => h hnd), if_neg]
  intro h2
  rw [List.all_eq_true] at h2
  have h3 := of_decide_eq_true (h2 i (List.mem_range.2 (by omega)))
  omega
theorem chk0 (h0 : ¬ (na < 0 ∨ nb < 0)) (hall : l.all (inP na nb) = true) (hnd : (l.map (·.f0)).Nodup ∧ (l.map (·.f1)).Nodup)
    (h : ∀ i : Nat, i + 1 < l.length → (rd_T37 l (i : Int)).f1 ≤ (rd_T37 l ((i + 1 : Nat) : Int)).f1) : checkR l na nb = 0 := by
  unfold checkR
  rw [if_neg h0, if_neg (by rw [hall]; decide), if_neg (fun h => h hnd), if_pos]
  rw [List.all_eq_true]
  intro i hi
  have := List.mem_range.1 hi
  exact decide_eq_true (h i (by omega))
theorem refCheck_l3 (hl : l.length ≤ 100000) (h0 : ¬ (na < 0 ∨ nb < 0)) (hall : l.all (inP na nb) = true) (hnd : (l.map (·.f0)).Nodup ∧ (l.map (·.f1)).Nodup) : ∀ (d k i : Nat), l.length ≤ i + d → d < k → 1 ≤ i →
    (∀ t : Nat, t + 1 < i → t + 1 < l.length → (rd_T37 l (t : Int)).f1 ≤ (rd_T37 l ((t + 1 : Nat) : Int)).f1) → i ≤ 200000 → tartanref06_Check.l3 k l (i : Nat) = some (checkR l na nb) := by
  intro d
  induction d with
  | zero =>
    intro k i hi hk h1 h hb
    obtain ⟨k, rfl⟩ : ∃ m, k = m + 1 := ⟨k - 1, by omega⟩
    simp only [tartanref06_Check.l3]
    rw [if_neg (by omega), chk0 h0 hall hnd (fun t ht => h t (by omega) ht)]
  | succ d ih =>
    intro k i hi hk h1 h hb
    obtain ⟨k, rfl⟩ : ∃ m, k = m + 1 := ⟨k - 1, by omega⟩
    have e1 : wrap64 ((i : Int) - 1) = ((i - 1 : Nat) : Int) := by rw [wrap_in (by omega) (by omega)]; omega
    simp only [tartanref06_Check.l3]
    by_cases hlt : i < l.length
    · rw [if_pos (by omega), if_pos (by omega), e1, if_pos (by omega), if_pos (by omega)]
      by_cases c : (rd_T37 l (i : Int)).f1 < (rd_T37 l ((i - 1 : Nat) : Int)).f1
      · rw [if_pos c]
        obtain ⟨i, rfl⟩ : ∃ m, i = m + 1 := ⟨i - 1, by omega⟩
        rw [chk12 h0 hall hnd (i := i) (by omega) c]
      · rw [if_neg c, wrap_up _ (by omega)]
        refine ih k (i + 1) (by omega) (by omega) (by omega) (fun t ht ht2 => ?_) (by omega)
        rcases Nat.lt_or_ge (t + 1) i with h3 | h3
        · exact h t h3 ht2
        · obtain rfl : i = t + 1 := by omega
          rw [show t + 1 - 1 = t from rfl] at c
          omega
    · rw [if_neg (by omega), chk0 h0 hall hnd (fun t ht => h t (by omega) ht)]
theorem refCheck_l2 (hl : l.length ≤ 100000) (h0 : ¬ (na < 0 ∨ nb < 0)) (hall : l.all (inP na nb) = true) (i F : Nat) (hi : i < l.length)
    (H : (∀ j, j < i → (rd_T37 l (j : Int)).f0 ≠ (rd_T37 l (i : Int)).f0 ∧ (rd_T37 l (j : Int)).f1 ≠ (rd_T37 l (i : Int)).f1) → ∀ k, F < k → tartanref06_Check.l1 k l ((i + 1 : Nat) : Int) = some (checkR l na nb)) :
    ∀ (e k j : Nat), j + e = i → e + F + 1 < k → (∀ j', j' < j → (rd_T37 l (j' : Int)).f0 ≠ (rd_T37 l (i : Int)).f0 ∧ (rd_T37 l (j' : Int)).f1 ≠ (rd_T37 l (i : Int)).f1) → tartanref06_Check.l2 k l (i : Nat) (j : Nat) = some (checkR l na nb) := by
  intro e
  induction e with
  | zero =>
    intro k j hj hk h
    obtain ⟨k, rfl⟩ : ∃ m, k = m + 1 := ⟨k - 1, by omega⟩
    simp only [tartanref06_Check.l2]
    rw [if_neg (by omega), wrap_up _ (by omega)]
    exact H (fun j' hj' => h j' (by omega)) k (by omega)
  | succ e ih =>
    intro k j hj hk h
    obtain ⟨k, rfl⟩ : ∃ m, k = m + 1 := ⟨k - 1, by omega⟩
    simp only [tartanref06_Check.l2]
    rw [if_pos (by omega), if_pos (by omega), if_pos (by omega), if_pos (by omega), if_pos (by omega)]
    by_cases c0 : (rd_T37 l (j : Int)).f0 = (rd_T37 l (i : Int)).f0
    · rw [if_pos c0, chk10 h0 hall (j := j) (i := i) (by omega) hi (.inl c0)]
    · rw [if_neg c0]
      by_cases c1 : (rd_T37 l (j : Int)).f1 = (rd_T37 l (i : Int)).f1
      · rw [if_pos c1, chk10 h0 hall (j := j) (i := i) (by omega) hi (.inr c1)]
      · rw [if_neg c1, wrap_up _ (by omega)]
        refine ih k (j + 1) (by omega) (by omega) fun j' hj' => ?_
        rcases Nat.lt_or_ge j' j with h3 | h3
        · exact h j' h3
        · obtain rfl : j' = j := by omega
          exact ⟨c0, c1⟩
theorem refCheck_l1 (hl : l.length ≤ 100000) (h0 : ¬ (na < 0 ∨ nb < 0)) (hall : l.all (inP na nb) = true) : ∀ (d k i : Nat), i + d = l.length → d * (l.length + 3) + l.length + 2 < k →
    (∀ i' j, j < i' → i' < i → (rd_T37 l (j : Int)).f0 ≠ (rd_T37 l (i' : Int)).f0 ∧ (rd_T37 l (j : Int)).f1 ≠ (rd_T37 l (i' : Int)).f1) → tartanref06_Check.l1 k l (i : Nat) = some (checkR l na nb) := by
  intro d
  induction d with
  | zero =>
    intro k i hi hk h
    obtain ⟨k, rfl⟩ : ∃ m, k = m + 1 := ⟨k - 1, by omega⟩
    simp only [tartanref06_Check.l1]
    rw [if_neg (by omega)]
    refine refCheck_l3 hl h0 hall ⟨?_, ?_⟩ l.length k 1 (by omega) (by omega) (Nat.le_refl _) (fun t ht => by omega) (by omega)
    · refine List.pairwise_iff_getElem.2 fun j i' hj hi' hji => ?_
      simp only [List.length_map] at hj hi'
      have := (h i' j hji (by omega)).1
      rw [rdP_get hj, rdP_get hi'] at this
      simpa using this
    · refine List.pairwise_iff_getElem.2 fun j i' hj hi' hji => ?_
      simp only [List.length_map] at hj hi'
      have := (h i' j hji (by omega)).2
      rw [rdP_get hj, rdP_get hi'] at this
      simpa using this
  | succ d ih =>
    intro k i hi hk h
    obtain ⟨k, rfl⟩ : ∃ m, k = m + 1 := ⟨k - 1, by omega⟩
    rw [Nat.succ_mul] at hk
    simp only [tartanref06_Check.l1]
    rw [if_pos (by omega)]
    refine refCheck_l2 hl h0 hall i (d * (l.length + 3) + l.length + 2) (by omega) (fun hno k' hk' => ih k' (i + 1) (by omega) hk' fun i' j hj hi' => ?_) i k 0 (by omega) (by omega) (fun j' h => by omega)
    rcases Nat.lt_or_ge i' i with h3 | h3
    · exact h i' j hj h3
    · obtain rfl : i' = i := by omega
      exact hno j hj
theorem refCheck_l0 (hl : l.length ≤ 100000) (h0 : ¬ (na < 0 ∨ nb < 0)) : ∀ (d k i : Nat), i + d = l.length → d + l.length * (l.length + 3) + l.length + 3 < k → (l.take i).all (inP na nb) = true → tartanref06_Check.l0 k l na nb (i : Nat) = some (checkR l na nb) := by
  intro d
  induction d with
  | zero =>
    intro k i hi hk h
    obtain ⟨k, rfl⟩ : ∃ m, k = m + 1 := ⟨k - 1, by omega⟩
    rw [List.take_of_length_le (by omega)] at h
    simp only [tartanref06_Check.l0]
    rw [if_neg (by omega)]
    exact refCheck_l1 hl h0 h l.length k 0 (by omega) (by omega) (fun i' j h1 h2 => by omega)
  | succ d ih =>
    intro k i hi hk h
    obtain ⟨k, rfl⟩ : ∃ m, k = m + 1 := ⟨k - 1, by omega⟩
    have hN := fun hn => chk11 (l := l) (na := na) (nb := nb) h0 (i := i) (by omega) hn
    have ih' := ih k (i + 1) (by omega) (by omega)
    rw [take_rdP (by omega), List.all_append, h] at ih'
    simp only [List.all_cons, List.all_nil, Bool.and_true, Bool.true_and] at ih'
    unfold inP at ih' hN
    simp only [tartanref06_Check.l0]
    rw [if_pos (by omega), if_pos (by omega), wrap_up _ (by omega)]
    generalize rd_T37 l (i : Int) = p at *
    by_cases c : 0 ≤ p.f0 ∧ p.f0 < na ∧ 0 ≤ p.f1 ∧ p.f1 < nb
    · rw [if_neg (by omega), if_neg (by omega), if_neg (by omega), if_neg (by omega)]
      exact ih' (decide_eq_true c)
    · rw [hN (decide_eq_false c)]
      split
      · rfl
      · split
        · rfl
        · split
          · rfl
          · split
            · rfl
            · omega
theorem refCheck_some (hl : l.length ≤ 100000) {k : Nat} (hk : l.length * (l.length + 3) + 2 * l.length + 4 < k) : tartanref06_Check.f k l na nb = some (checkR l na nb) := by
  obtain ⟨k, rfl⟩ : ∃ m, k = m + 1 := ⟨k - 1, by omega⟩
  unfold tartanref06_Check.f
  by_cases h0 : na < 0 ∨ nb < 0
  · have e : checkR l na nb = 1 := by unfold checkR; rw [if_pos h0]
    rw [e]
    by_cases h1 : na < 0
    · rw [if_pos h1]; simp [tartanref06_Check.j0]
    · rw [if_neg h1]
      simp only [tartanref06_Check.j0]
      rw [if_pos (decide_eq_true (by omega))]
  · rw [if_neg (by omega), decide_eq_false (by omega)]
    simp only [tartanref06_Check.j0]
    rw [if_neg (by decide)]
    exact refCheck_l0 hl h0 l.length k 0 (by omega) (by omega) (by simp)
end
end Go.Proofs.Ytphmnjapjalfgaa.X
