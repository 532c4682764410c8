/- The texts that the law ColsAlign wants, part 8 of 8: what is kept of them. -/
import Derived.KernelRfl
import Derived.Test.YtoefeboikkhdkaaCColsAlign7
section
namespace Go.Proofs.Ytoefeboikkhdkaa.X.Gr
open Go.RowKit Go.Proofs.YtoefeboikkhdkaaW.PrintWords
set_option linter.unusedVariables false
theorem refSame_l0 (a b : List PS) (hab : a.length = b.length) (ha : a.length ≤ 100000) : ∀ (d k i : Nat), i + d = a.length → d < k → tartanref06_Same.l0 k a b (i : Nat) = some (sameB (a.drop i) (b.drop i)) := by
  intro d
  induction d with
  | zero =>
    intro k i hi hk
    obtain ⟨k, rfl⟩ : ∃ m, k = m + 1 := ⟨k - 1, by omega⟩
    simp only [tartanref06_Same.l0]
    rw [if_neg (by omega), List.drop_eq_nil_of_le (by omega), List.drop_eq_nil_of_le (by omega)]; rfl
  | succ d ih =>
    intro k i hi hk
    obtain ⟨k, rfl⟩ : ∃ m, k = m + 1 := ⟨k - 1, by omega⟩
    have ih' := ih k (i + 1) (by omega) (by omega)
    simp only [tartanref06_Same.l0]
    rw [if_pos (by omega), if_pos (by omega), if_pos (by omega), wrap_up _ (by omega), ih', dropP (l := a) (t := i) (by omega), dropP (l := b) (t := i) (by omega)]
    show _ = some (eqP _ _ && sameB _ _)
    unfold eqP
    cases (rd_T37 a (i : Int)).f0 == (rd_T37 b (i : Int)).f0 <;> cases (rd_T37 a (i : Int)).f1 == (rd_T37 b (i : Int)).f1 <;> simp
theorem sameB_len {a b : List PS} (h : ¬ a.length = b.length) : sameB a b = false := by
  rw [Bool.eq_false_iff]; intro h2; exact h (by rw [sameB_iff.1 h2])
theorem refSame_some {a b : List PS} (ha : a.length ≤ 100000) {k : Nat} (hk : a.length < k) : tartanref06_Same.f k a b = some (sameB a b) := by
  unfold tartanref06_Same.f
  by_cases e : a.length = b.length
  · rw [if_pos (by omega)]
    exact refSame_l0 a b e ha a.length k 0 (by omega) hk
  · rw [if_neg (by omega), sameB_len e]
/-- Pairs that are turned. -/
theorem refPut_l0 (s : List PS) (a b : Int) (hs : SortB s) (hl : s.length ≤ 100000) : ∀ (d k i kk : Nat), i + d = s.length → d < k → kk ≤ i → (∀ q ∈ (s.take i).drop kk, b < q.f1) → (kk = 0 ∨ (rd_T37 s ((kk - 1 : Nat) : Int)).f1 ≤ b) →
    tartanref06_Put.l0 k s (kk : Nat) (i : Nat) a b = some (putP s ⟨a, b⟩) := by
  intro d
  induction d with
  | zero =>
    intro k i kk hi hk hkk hhi hlo
    obtain ⟨k, rfl⟩ : ∃ m, k = m + 1 := ⟨k - 1, by omega⟩
    rw [List.take_of_length_le (by omega)] at hhi
    have hp := put_at s ⟨a, b⟩ hs kk (by omega) hhi hlo
    simp only [tartanref06_Put.l0]
    rw [if_neg (by omega), Option.bind_some, if_pos (by omega), if_pos (by omega), Option.bind_some, show ((kk : Int)).toNat = kk from rfl, if_pos (by rw [List.length_take]; simp; omega), Option.bind_some,
      if_pos (by simp; omega), Option.bind_some, Option.bind_some, if_pos (by simp; omega), hp]
    simp
  | succ d ih =>
    intro k i kk hi hk hkk hhi hlo
    obtain ⟨k, rfl⟩ : ∃ m, k = m + 1 := ⟨k - 1, by omega⟩
    simp only [tartanref06_Put.l0]
    rw [if_pos (by omega), if_pos (by omega), wrap_up _ (by omega)]
    by_cases c : (rd_T37 s (i : Int)).f1 ≤ b
    · rw [if_pos c]
      refine ih k (i + 1) (i + 1) (by omega) (by omega) (Nat.le_refl _) ?_ (.inr c)
      rw [List.drop_eq_nil_of_le (by rw [List.length_take]; omega)]
      intro q hq; cases hq
    · rw [if_neg c]
      refine ih k (i + 1) kk (by omega) (by omega) (by omega) ?_ hlo
      rw [take_rdP (by omega), List.drop_append_of_le_length (by rw [List.length_take]; omega)]
      intro q hq
      rcases List.mem_append.1 hq with h | h
      · exact hhi q h
      · simp only [List.mem_singleton] at h
        subst h; omega
theorem refPut_some {s : List PS} {a b : Int} (hs : SortB s) (hl : s.length ≤ 100000) {k : Nat} (hk : s.length < k) : tartanref06_Put.f k s a b = some (putP s ⟨a, b⟩) := by
  unfold tartanref06_Put.f
  exact refPut_l0 s a b hs hl s.length k 0 0 (by omega) hk (Nat.le_refl _) (fun q hq => by simp at hq) (.inl rfl)
end Go.Proofs.Ytoefeboikkhdkaa.X.Gr
end
section
namespace Go.Proofs.Ytoefeboikkhdkaa.X.Gr
open Go.RowKit Go.Proofs.YtoefeboikkhdkaaW.PrintWords
set_option linter.unusedVariables false
theorem refBetter_some (x y : SC) : tartanref10_Better.f x.f0 x.f1 x.f2 y.f0 y.f1 y.f2 = some (decide (Bet x y)) := by
  unfold tartanref10_Better.f
  split
  · rename_i h2
    split
    · rename_i h0
      congr 1
      rw [Bool.eq_iff_iff, decide_eq_true_eq, decide_eq_true_eq]; unfold Bet
      omega
    · rename_i h0
      congr 1
      rw [Bool.eq_iff_iff, decide_eq_true_eq, decide_eq_true_eq]; unfold Bet
      omega
  · congr 1
    rw [Bool.eq_iff_iff, decide_eq_true_eq, decide_eq_true_eq]; unfold Bet
    omega
theorem sorted_sortC (l : List SC) : (sortC l).Pairwise (fun a b => leC a b = true) := sort_isort leC leC_tot leC_trans l
theorem mem_sortC {l : List SC} {x : SC} : x ∈ sortC l ↔ x ∈ l := (perm_isort leC l).mem_iff
theorem fold_from (L : List SC) : ∀ (out : List PS) (z : PS), z ∈ L.foldl stepK out → z ∈ out ∨ ∃ x ∈ L, z = ⟨x.f0, x.f1⟩ ∧ 0 ≤ x.f0 ∧ 0 ≤ x.f1 := by
  induction L with
  | nil => intro out z h; exact .inl h
  | cons x L ih =>
    intro out z h
    rcases ih _ _ h with h | ⟨y, hy, e⟩
    · unfold stepK at h
      split at h
      · exact .inl h
      · rename_i hc
        rcases List.mem_append.1 h with h | h
        · exact .inl h
        · simp only [List.mem_singleton] at h
          exact .inr ⟨x, List.mem_cons_self, h, by omega, by omega⟩
    · exact .inr ⟨y, List.mem_cons_of_mem _ hy, e⟩
theorem pickL_from {l : List SC} {z : PS} (h : z ∈ pickL l) : ∃ x ∈ l, z = ⟨x.f0, x.f1⟩ ∧ 0 ≤ x.f0 ∧ 0 ≤ x.f1 := by
  rcases fold_from _ _ _ h with h | ⟨x, hx, e⟩
  · cases h
  · exact ⟨x, mem_sortC.1 hx, e⟩
theorem mem_pick {l : List SC} {z : PS} : z ∈ pickR l ↔ z ∈ pickL l := mem_fold
theorem pickL_nd1 (l : List SC) : ((pickL l).map (·.f1)).Nodup := by have := atK_nd l l.length; rwa [atK_all] at this
theorem pick_pm (l : List SC) : (pickR l).Perm (pickL l) := by
  have := perm_fold (pickL l) []
  rwa [List.append_nil] at this
theorem pick_str (l : List SC) : StrB (pickR l) := str_of (sort_fold _ _ List.Pairwise.nil) (((pick_pm l).map (·.f1)).symm.nodup (pickL_nd1 l))
theorem pick_len (l : List SC) : (pickR l).length ≤ l.length := by
  have h1 := (pick_pm l).length_eq
  have h2 := atK_len l l.length
  rw [atK_all] at h2
  omega
theorem dropC {l : List SC} {t : Nat} (h : t < l.length) : l.drop t = rd_T57 l (t : Int) :: l.drop (t + 1) := by
  unfold rd_T57
  rw [List.drop_eq_getElem_cons h, show ((t : Int)).toNat = t from rfl, List.getD_eq_getElem?_getD, List.getElem?_eq_getElem h]; rfl
theorem rdC_get {l : List SC} {i : Nat} (h : i < l.length) : rd_T57 l (i : Int) = l[i] := by
  unfold rd_T57
  rw [show ((i : Int)).toNat = i from rfl, List.getD_eq_getElem?_getD, List.getElem?_eq_getElem h]; rfl
def freeB (x : SC) : Bool := decide (0 ≤ x.f0 ∧ 0 ≤ x.f1)
theorem refFree_l0 (l : List SC) (hl : l.length ≤ 100000) : ∀ (d k i : Nat) (acc : List SC), i + d = l.length → acc.length ≤ i → d < k → tartanref10_free.l0 k l acc (i : Nat) = some (acc ++ (l.drop i).filter freeB) := by
  intro d
  induction d with
  | zero =>
    intro k i acc hi ha hk
    obtain ⟨k, rfl⟩ : ∃ m, k = m + 1 := ⟨k - 1, by omega⟩
    simp only [tartanref10_free.l0]
    rw [if_neg (by omega), List.drop_eq_nil_of_le (by omega)]; simp
  | succ d ih =>
    intro k i acc hi ha hk
    obtain ⟨k, rfl⟩ : ∃ m, k = m + 1 := ⟨k - 1, by omega⟩
    have ih1 := ih k (i + 1) acc (by omega) (by omega) (by omega)
    have ih2 := ih k (i + 1) (acc ++ [(⟨(rd_T57 l (i : Int)).f0, (rd_T57 l (i : Int)).f1, (rd_T57 l (i : Int)).f2⟩ : SC)]) (by omega) (by rw [List.length_append, List.length_singleton]; omega) (by omega)
    simp only [tartanref10_free.l0]
    rw [if_pos (by omega), if_pos (by omega), wrap_up _ (by omega), ih1, ih2, if_pos (show acc.length < 5864062014805 by omega), dropC (l := l) (t := i) (by omega)]
    by_cases h0 : (rd_T57 l (i : Int)).f0 ≥ 0
    · by_cases h1 : (rd_T57 l (i : Int)).f1 ≥ 0
      · rw [if_pos h0, if_pos h1, List.filter_cons, if_pos (show freeB _ = true from decide_eq_true ⟨h0, h1⟩)]; simp
      · rw [if_pos h0, if_neg h1, List.filter_cons, if_neg (by unfold freeB; simp; omega)]
    · rw [if_neg h0, List.filter_cons, if_neg (by unfold freeB; simp; omega)]
theorem refFree_some {l : List SC} (hl : l.length ≤ 100000) {k : Nat} (hk : l.length < k) : tartanref10_free.f k l = some (l.filter freeB) := by
  have := refFree_l0 l hl l.length k 0 [] (by omega) (Nat.le_refl _) hk
  simpa [tartanref10_free.f] using this
def apartB (a b : Int) (x : SC) : Bool := decide (x.f0 ≠ a ∧ x.f1 ≠ b)
theorem refWithout_l0 (l : List SC) (a b c : Int) (hl : l.length ≤ 100000) : ∀ (d k i : Nat) (acc : List SC), i + d = l.length → acc.length ≤ i → d < k → tartanref10_without.l0 k l acc (i : Nat) a b c = some (acc ++ (l.drop i).filter (apartB a b)) := by
  intro d
  induction d with
  | zero =>
    intro k i acc hi ha hk
    obtain ⟨k, rfl⟩ : ∃ m, k = m + 1 := ⟨k - 1, by omega⟩
    simp only [tartanref10_without.l0]
    rw [if_neg (by omega), List.drop_eq_nil_of_le (by omega)]; simp
  | succ d ih =>
    intro k i acc hi ha hk
    obtain ⟨k, rfl⟩ : ∃ m, k = m + 1 := ⟨k - 1, by omega⟩
    have ih1 := ih k (i + 1) acc (by omega) (by omega) (by omega)
    have ih2 := ih k (i + 1) (acc ++ [(⟨(rd_T57 l (i : Int)).f0, (rd_T57 l (i : Int)).f1, (rd_T57 l (i : Int)).f2⟩ : SC)]) (by omega) (by rw [List.length_append, List.length_singleton]; omega) (by omega)
    simp only [tartanref10_without.l0]
    rw [if_pos (by omega), if_pos (by omega), wrap_up _ (by omega), ih1, ih2, if_pos (show acc.length < 5864062014805 by omega), dropC (l := l) (t := i) (by omega)]
    by_cases h0 : (rd_T57 l (i : Int)).f0 = a
    · rw [if_pos h0, List.filter_cons, if_neg (by unfold apartB; simp [h0])]
    · by_cases h1 : (rd_T57 l (i : Int)).f1 = b
      · rw [if_neg h0, if_pos h1, List.filter_cons, if_neg (by unfold apartB; simp [h1])]
      · rw [if_neg h0, if_neg h1, List.filter_cons, if_pos (show apartB a b _ = true from decide_eq_true ⟨h0, h1⟩)]; simp
theorem refWithout_some {l : List SC} {a b c : Int} (hl : l.length ≤ 100000) {k : Nat} (hk : l.length < k) : tartanref10_without.f k l a b c = some (l.filter (apartB a b)) := by
  have := refWithout_l0 l a b c hl l.length k 0 [] (by omega) (Nat.le_refl _) hk
  simpa [tartanref10_without.f] using this
/-- What may still be taken. -/
def av (out : List PS) (x : SC) : Bool := decide (0 ≤ x.f0 ∧ 0 ≤ x.f1 ∧ (out.map (·.f0)).count x.f0 = 0 ∧ (out.map (·.f1)).count x.f1 = 0)
theorem refPick_l1 (taken : List PS) (rest : List SC) (hr : rest.length ≤ 100000) (ht : taken.length ≤ 100000) (hts : SortB taken) (F : Nat) (R : Option (List PS)) (x : SC) (hmin : ∀ y ∈ rest, ¬ Bet y x) (hx : x ∈ rest) (hF : taken.length < F ∧ rest.length < F)
    (H : ∀ k, F < k → tartanref10_Pick.l0 k (putP taken ⟨x.f0, x.f1⟩) (rest.filter (apartB x.f0 x.f1)) = R) :
    ∀ (d k i b : Nat), i + d = rest.length → d + F + 1 < k → b < i → (∀ j, j < i → ¬ Bet (rd_T57 rest (j : Int)) (rd_T57 rest (b : Int))) → tartanref10_Pick.l1 k taken rest (b : Nat) (i : Nat) = R := by
  intro d
  induction d with
  | zero =>
    intro k i b hi hk hb hall
    obtain ⟨k, rfl⟩ : ∃ m, k = m + 1 := ⟨k - 1, by omega⟩
    have hbx : rd_T57 rest (b : Int) = x := by
      obtain ⟨j, hj, e⟩ := List.getElem_of_mem hx
      have h1 := hall j (by omega)
      rw [rdC_get hj, e] at h1
      exact bet_tot (hmin _ (rdC_mem (by omega))) h1
    simp only [tartanref10_Pick.l1]
    rw [if_neg (by omega), if_pos (by omega), if_pos (by omega), hbx, refPut_some hts ht (by omega), Option.bind_some, refWithout_some hr (by omega), Option.bind_some]
    exact H k (by omega)
  | succ d ih =>
    intro k i b hi hk hb hall
    obtain ⟨k, rfl⟩ : ∃ m, k = m + 1 := ⟨k - 1, by omega⟩
    simp only [tartanref10_Pick.l1]
    rw [if_pos (by omega), if_pos (by omega), if_pos (by omega), if_pos (by omega), refBetter_some, Option.bind_some, wrap_up _ (by omega)]
    by_cases c : Bet (rd_T57 rest (i : Int)) (rd_T57 rest (b : Int))
    · rw [if_pos (decide_eq_true c)]
      refine ih k (i + 1) i (by omega) (by omega) (by omega) fun j hj => ?_
      rcases Nat.lt_or_ge j i with h | h
      · intro h2; exact hall j h (bet_trans h2 c)
      · obtain rfl : j = i := by omega
        exact bet_irr _
    · rw [if_neg (by simpa using c)]
      refine ih k (i + 1) b (by omega) (by omega) (by omega) fun j hj => ?_
      rcases Nat.lt_or_ge j i with h | h
      · exact hall j h
      · obtain rfl : j = i := by omega
        exact c
theorem refPick_l0 (B : Nat) (hB : B ≤ 50000) : ∀ (L : List SC), L.Pairwise (fun a b => leC a b = true) → ∀ (out : List PS) (rest : List SC) (k : Nat), rest.Perm (L.filter (av out)) → out.length + L.length ≤ B → L.length * (3 * B + 10) + 3 * B + 10 < k →
    tartanref10_Pick.l0 k (out.foldl putP []) rest = some ((L.foldl stepK out).foldl putP []) := by
  intro L
  induction L with
  | nil =>
    intro hp out rest k hr hlen hk
    obtain ⟨k, rfl⟩ : ∃ m, k = m + 1 := ⟨k - 1, by omega⟩
    have : rest = [] := List.Perm.eq_nil (by simpa using hr)
    subst this
    simp only [tartanref10_Pick.l0]
    rw [if_neg (by simp)]; rfl
  | cons x L ih =>
    intro hp out rest k hr hlen hk
    have hp' := List.pairwise_cons.1 hp
    rw [List.length_cons] at hlen hk
    rw [Nat.succ_mul] at hk
    by_cases c : av out x = true
    · have c' := of_decide_eq_true c
      rw [List.filter_cons, if_pos c] at hr
      have e : stepK out x = out ++ [⟨x.f0, x.f1⟩] := by unfold stepK; rw [if_neg (by omega)]
      rw [List.foldl_cons, e]
      have hrl : rest.length ≤ L.length + 1 := by
        rw [hr.length_eq, List.length_cons]
        have := List.length_filter_le (av out) L
        omega
      have hx : x ∈ rest := hr.mem_iff.2 List.mem_cons_self
      have hmin : ∀ y ∈ rest, ¬ Bet y x := by
        intro y hy
        rcases List.mem_cons.1 (hr.mem_iff.1 hy) with rfl | hy
        · exact bet_irr _
        · have h1 := hp'.1 y (List.mem_filter.1 hy).1
          unfold leC at h1
          simpa using h1
      have hfl : (out.foldl putP []).length = out.length := by rw [foldl_put_len]; simp
      have hpos := List.length_pos_of_mem hx
      have hfil : (rest.filter (apartB x.f0 x.f1)).Perm (L.filter (av (out ++ [⟨x.f0, x.f1⟩]))) := by
        have h1 := hr.filter (apartB x.f0 x.f1)
        rw [List.filter_cons, if_neg (by unfold apartB; simp), List.filter_filter] at h1
        refine h1.trans (List.Perm.of_eq (List.filter_congr fun y _ => ?_))
        unfold apartB av
        rw [Bool.eq_iff_iff, Bool.and_eq_true, decide_eq_true_eq, decide_eq_true_eq, decide_eq_true_eq, List.map_append, List.map_append, List.count_append, List.count_append]
        simp only [List.map_cons, List.map_nil, List.count_singleton, beq_iff_eq]
        constructor
        · rintro ⟨⟨q1, q2⟩, q3, q4, q5, q6⟩
          refine ⟨q3, q4, ?_, ?_⟩
          · rw [if_neg (fun h => q1 h.symm)]; omega
          · rw [if_neg (fun h => q2 h.symm)]; omega
        · rintro ⟨q3, q4, q5, q6⟩
          refine ⟨⟨fun h => ?_, fun h => ?_⟩, q3, q4, by omega, by omega⟩
          · rw [if_pos h.symm] at q5; omega
          · rw [if_pos h.symm] at q6; omega
      obtain ⟨k, rfl⟩ : ∃ m, k = m + 1 := ⟨k - 1, by omega⟩
      simp only [tartanref10_Pick.l0]
      rw [if_pos (by omega)]
      refine refPick_l1 (out.foldl putP []) rest (by omega) (by omega) (sort_fold _ _ List.Pairwise.nil) (L.length * (3 * B + 10) + 3 * B + 10) _ x hmin hx ⟨by omega, by omega⟩ (fun k' hk' => ?_) (rest.length - 1) k 1 0 (by omega) (by omega) (by omega) (fun j hj => ?_)
      · have h2 := ih hp'.2 (out ++ [⟨x.f0, x.f1⟩]) _ k' hfil (by rw [List.length_append, List.length_singleton]; omega) hk'
        rw [List.foldl_append] at h2
        exact h2
      · obtain rfl : j = 0 := by omega
        exact bet_irr _
    · rw [List.filter_cons, if_neg c] at hr
      have e : stepK out x = out := by
        unfold stepK
        unfold av at c
        rw [decide_eq_true_eq] at c
        rw [if_pos]
        omega
      rw [List.foldl_cons, e]
      exact ih hp'.2 out rest k hr (by omega) (by omega)
theorem refPick_some {l : List SC} (hl : l.length ≤ 20000) {k : Nat} (hk : l.length * (3 * l.length + 10) + 3 * l.length + 10 < k) : tartanref10_Pick.f k l = some (pickR l) := by
  unfold tartanref10_Pick.f
  rw [refFree_some (by omega) (by omega), Option.bind_some]
  have hpm : (l.filter freeB).Perm ((sortC l).filter (av [])) := by
    have h1 := ((perm_isort leC l).filter freeB).symm
    refine h1.trans (List.Perm.of_eq (List.filter_congr fun y _ => ?_))
    unfold freeB av
    simp
  have hs := sortC_len l
  exact refPick_l0 l.length (by omega) (sortC l) (sorted_sortC l) [] (l.filter freeB) k hpm (by simp [hs]) (by rw [hs]; exact hk)
end Go.Proofs.Ytoefeboikkhdkaa.X.Gr
end
section
namespace Go.Proofs.Ytoefeboikkhdkaa.X
open Go.RowKit Go.Proofs.YtoefeboikkhdkaaW.PrintWords
set_option linter.unusedVariables false
set_option maxRecDepth 100000 in
theorem works13 : ∀ k, tartanlaw13_works.f (k + 60) = some true := by intro k; kernel_rfl
theorem fuel13 : ∃ k : Nat, 1000000000 ≤ k := ⟨1000000000, Nat.le_refl _⟩
/-- Where a name is, the first time; -1: nowhere. -/
def findF : List ByteArray → ByteArray → Nat → Int
  | [], _, _ => -1
  | x :: r, s, i => if x = s then (i : Int) else findF r s (i + 1)
def findR (l : List ByteArray) (s : ByteArray) : Int := findF l s 0
theorem rdB_get {l : List ByteArray} {i : Nat} (h : i < l.length) : rdB l (i : Int) = l[i] := by
  show l.getD i _ = _
  rw [List.getD_eq_getElem?_getD, List.getElem?_eq_getElem h]; rfl
theorem findF_at (l : List ByteArray) (s : ByteArray) : ∀ (d i : Nat), i + d = l.length → (∀ j : Nat, j < i → rdB l (j : Int) ≠ s) → FindAt l s (findF (l.drop i) s i) := by
  intro d
  induction d with
  | zero =>
    intro i hi h
    rw [List.drop_eq_nil_of_le (by omega)]
    exact .inl ⟨rfl, fun j hj => h j (by omega)⟩
  | succ d ih =>
    intro i hi h
    rw [List.drop_eq_getElem_cons (by omega)]
    show FindAt l s (if l[i] = s then (i : Int) else findF (l.drop (i + 1)) s (i + 1))
    by_cases e : l[i] = s
    · rw [if_pos e]
      exact .inr ⟨i, rfl, by omega, by rw [rdB_get (by omega)]; exact e, h⟩
    · rw [if_neg e]
      refine ih (i + 1) (by omega) (fun j hj => ?_)
      rcases Nat.lt_or_ge j i with h1 | h1
      · exact h j h1
      · obtain rfl : j = i := by omega
        rw [rdB_get (by omega)]; exact e
theorem findAt_R (l : List ByteArray) (s : ByteArray) : FindAt l s (findR l s) := by
  have := findF_at l s l.length 0 (by omega) (fun j hj => by omega)
  rwa [List.drop_zero] at this
theorem find_R (l : List ByteArray) (rows : List (List ByteArray)) (s : ByteArray) (hl : l.length ≤ 1000) {k : Nat} (hk : 2000 ≤ k) : table_Find.f k l rows s = some (findR l s) := by
  obtain ⟨r, h1, h2⟩ := find_some l rows s hl hk
  rw [h2, h1.uniq (findAt_R l s)]
theorem rfind_R (l : List ByteArray) (rows : List (List ByteArray)) (s : ByteArray) (hl : l.length ≤ 1000) {k : Nat} (hk : 2000 ≤ k) : tartanref04_Find.f k l rows s = some (findR l s) := by
  obtain ⟨r, h1, h2⟩ := rfind_some l rows s hl hk
  rw [h2, h1.uniq (findAt_R l s)]
theorem findR_pos {l : List ByteArray} {s : ByteArray} (h : 0 ≤ findR l s) : ∃ i : Nat, findR l s = i ∧ ∃ hi : i < l.length, l[i] = s := by
  rcases findAt_R l s with ⟨e, _⟩ | ⟨i, e, hi, he, _⟩
  · omega
  · exact ⟨i, e, hi, by rw [← rdB_get hi]; exact he⟩
/-- The columns of the same name, of the first so many. -/
def nameQ (ha hb : List ByteArray) (q : Nat) : List PS := if 0 ≤ findR ha (rdB hb (q : Int)) then [⟨findR ha (rdB hb (q : Int)), (q : Int)⟩] else []
def nameK (ha hb : List ByteArray) (n : Nat) : List PS := (List.range n).flatMap (nameQ ha hb)
def namedR (ha hb : List ByteArray) : List PS := nameK ha hb hb.length
theorem nameK_succ (ha hb : List ByteArray) (n : Nat) : nameK ha hb (n + 1) = nameK ha hb n ++ nameQ ha hb n := by unfold nameK; rw [List.range_succ, List.flatMap_append]; simp
theorem nameK_len (ha hb : List ByteArray) : ∀ n, (nameK ha hb n).length ≤ n
  | 0 => by simp [nameK]
  | n + 1 => by
    have h1 := nameK_len ha hb n
    have h2 : (nameQ ha hb n).length ≤ 1 := by unfold nameQ; split <;> simp
    rw [nameK_succ, List.length_append]; omega
theorem mem_nameK {ha hb : List ByteArray} {n : Nat} {z : PS} : z ∈ nameK ha hb n ↔ ∃ q : Nat, q < n ∧ 0 ≤ findR ha (rdB hb (q : Int)) ∧ z = ⟨findR ha (rdB hb (q : Int)), (q : Int)⟩ := by
  unfold nameK
  rw [List.mem_flatMap]
  constructor
  · rintro ⟨q, hq, hz⟩
    unfold nameQ at hz
    split at hz
    · rename_i h
      exact ⟨q, List.mem_range.1 hq, h, List.mem_singleton.1 hz⟩
    · cases hz
  · rintro ⟨q, hq, h, rfl⟩
    refine ⟨q, List.mem_range.2 hq, ?_⟩
    unfold nameQ
    rw [if_pos h]; simp
theorem named_l0 (ha : List ByteArray) (ra : List (List ByteArray)) (hb : List ByteArray) (h1 : ha.length ≤ 1000) (h2 : hb.length ≤ 1000) : ∀ (d k i : Nat), i + d = hb.length → d + 2000 < k → cols_Named.l0 k (nameK ha hb i) hb (hb.length : Int) (i : Nat) ha ra = some (namedR ha hb) := by
  intro d
  induction d with
  | zero =>
    intro k i hi hk
    obtain ⟨k, rfl⟩ : ∃ m, k = m + 1 := ⟨k - 1, by omega⟩
    simp only [cols_Named.l0]
    rw [if_neg (by omega), show i = hb.length by omega]; rfl
  | succ d ih =>
    intro k i hi hk
    obtain ⟨k, rfl⟩ : ∃ m, k = m + 1 := ⟨k - 1, by omega⟩
    have hl := nameK_len ha hb i
    have hI := ih k (i + 1) (by omega) (by omega)
    rw [nameK_succ] at hI
    simp only [cols_Named.l0]
    rw [if_pos (by omega), if_pos (by omega), if_pos (by omega), find_R _ _ _ h1 (by omega), Option.bind_some, wrap_upF _ (by omega)]
    unfold nameQ at hI
    split
    · rename_i h
      rw [if_pos h] at hI
      rw [if_pos (by omega)]; exact hI
    · rename_i h
      rw [if_neg (by omega), List.append_nil] at hI
      exact hI
theorem named_some (ha : List ByteArray) (ra : List (List ByteArray)) (hb : List ByteArray) (rb : List (List ByteArray)) (h1 : ha.length ≤ 100) (h2 : hb.length ≤ 100) {k : Nat} (hk : 2200 ≤ k) : cols_Named.f k ha ra hb rb = some (namedR ha hb) :=
  named_l0 ha ra hb (by omega) (by omega) hb.length k 0 (by omega) (by omega)
theorem refNamed_l0 (ha : List ByteArray) (ra : List (List ByteArray)) (hb : List ByteArray) (rb : List (List ByteArray)) (h1 : ha.length ≤ 1000) (h2 : hb.length ≤ 1000) : ∀ (d k i : Nat), i + d = hb.length → d + 2000 < k → tartanref13_Named.l0 k (nameK ha hb i) (i : Nat) ha ra hb rb = some (namedR ha hb) := by
  intro d
  induction d with
  | zero =>
    intro k i hi hk
    obtain ⟨k, rfl⟩ : ∃ m, k = m + 1 := ⟨k - 1, by omega⟩
    simp only [tartanref13_Named.l0]
    rw [if_neg (by omega), show i = hb.length by omega]; rfl
  | succ d ih =>
    intro k i hi hk
    obtain ⟨k, rfl⟩ : ∃ m, k = m + 1 := ⟨k - 1, by omega⟩
    have hl := nameK_len ha hb i
    have hI := ih k (i + 1) (by omega) (by omega)
    rw [nameK_succ] at hI
    simp only [tartanref13_Named.l0]
    rw [if_pos (by omega), if_pos (by omega), rfind_R _ _ _ h1 (by omega), Option.bind_some, wrap_upF _ (by omega)]
    unfold nameQ at hI
    split
    · rename_i h
      rw [if_pos h] at hI
      rw [if_pos (by omega)]; exact hI
    · rename_i h
      rw [if_neg (by omega), List.append_nil] at hI
      exact hI
theorem refNamed_some (ha : List ByteArray) (ra : List (List ByteArray)) (hb : List ByteArray) (rb : List (List ByteArray)) (h1 : ha.length ≤ 100) (h2 : hb.length ≤ 100) {k : Nat} (hk : 2200 ≤ k) : tartanref13_Named.f k ha ra hb rb = some (namedR ha hb) :=
  refNamed_l0 ha ra hb rb (by omega) (by omega) hb.length k 0 (by omega) (by omega)
theorem nameK_str (ha hb : List ByteArray) : ∀ n, Gr.StrB (nameK ha hb n)
  | 0 => by simp [nameK, Gr.StrB]
  | n + 1 => by
    rw [nameK_succ]
    refine List.pairwise_append.2 ⟨nameK_str ha hb n, by unfold nameQ; split <;> simp, fun a h1 b h2 => ?_⟩
    obtain ⟨q, hq, _, rfl⟩ := mem_nameK.1 h1
    unfold nameQ at h2
    split at h2
    · rw [List.mem_singleton.1 h2]
      show (q : Int) < (n : Int)
      omega
    · cases h2
theorem str_nd1 {l : List PS} (h : Gr.StrB l) : (l.map (·.f1)).Nodup := by
  rw [List.Nodup, List.pairwise_map]
  exact h.imp (fun h e => by have h' := h; have : (_ : PS).f1 < _ := h'; omega)
theorem named_at {ha hb : List ByteArray} {z : PS} (h : z ∈ namedR ha hb) : ∃ (i q : Nat) (hi : i < ha.length) (hq : q < hb.length), z = ⟨(i : Int), (q : Int)⟩ ∧ ha[i] = hb[q] := by
  obtain ⟨q, hq, h0, rfl⟩ := mem_nameK.1 h
  obtain ⟨i, e, hi, he⟩ := findR_pos h0
  exact ⟨i, q, hi, hq, by rw [e], by rw [he, rdB_get hq]⟩
theorem wf_small {x : Int} (h0 : 0 ≤ x) (h1 : x ≤ 1000000) : (Lit.int .i64 x).wf = true := by
  simp [Lit.wf, IntKind.min, IntKind.max, IntKind.signed, IntKind.bits]
  omega
theorem named_ok (ha hb : List ByteArray) (h1 : ha.length ≤ 100) (h2 : hb.length ≤ 100) : okP (namedR ha hb) = true := by
  have hl := nameK_len ha hb hb.length
  unfold okP
  rw [Bool.and_eq_true]
  refine ⟨decide_eq_true (by show (nameK ha hb hb.length).length ≤ _; omega), List.all_eq_true.2 fun z hz => ?_⟩
  obtain ⟨i, q, hi, hq, rfl, _⟩ := named_at hz
  show ((Lit.int .i64 (i : Int)).wf && (Lit.int .i64 (q : Int)).wf) = true
  rw [wf_small (by omega) (by omega), wf_small (by omega) (by omega)]; rfl
theorem mem_restR {xs : List Int} {n : Nat} {x : Int} : x ∈ restR xs n ↔ 0 ≤ x ∧ x < (n : Int) ∧ x ∉ xs := by
  unfold restR
  rw [List.mem_flatMap]
  constructor
  · rintro ⟨i, hi, hx⟩
    have hi' := List.mem_range.1 hi
    split at hx
    · rename_i h0
      simp only [List.mem_singleton] at hx
      subst hx
      exact ⟨by omega, by omega, List.count_eq_zero.1 h0⟩
    · simp at hx
  · rintro ⟨h0, h1, h2⟩
    refine ⟨x.toNat, List.mem_range.2 (by omega), ?_⟩
    have e : ((x.toNat : Nat) : Int) = x := by omega
    rw [e, if_pos (List.count_eq_zero.2 h2)]; simp
theorem mayR_iff {n : Int} {ra rb : Nat} (h0 : 0 ≤ n) (h1 : n ≤ 1000000) : mayR n ra rb = true ↔ (ra : Int) < wrap64 (2 * n) ∧ (rb : Int) < wrap64 (2 * n) := by
  unfold mayR
  rw [decide_eq_true_eq]
  omega
theorem score_le (ha : List ByteArray) (ra : List (List ByteArray)) (hb : List ByteArray) (rb : List (List ByteArray)) (x : Int × Int) : 0 ≤ scoreT ha ra hb rb x ∧ scoreT ha ra hb rb x ≤ ra.length := by
  unfold scoreT
  rw [Ba.ovl_eq]
  have h1 := Ba.ov2_le (Ba.BT (columnT ha ra x.1)) (Ba.BT (columnT hb rb x.2))
  have h2 := columnT_len ha ra x.1
  rw [List.length_map] at h1
  omega
theorem refOverlap_R (ha : List ByteArray) (ra : List (List ByteArray)) (hb : List ByteArray) (rb : List (List ByteArray)) (x : Int × Int) (h1 : ra.length ≤ 1000) (h2 : rb.length ≤ 1000) {k : Nat} (hk : 10000 ≤ k) : tartanref09_Overlap.f k (columnT ha ra x.1) (columnT hb rb x.2) = some (scoreT ha ra hb rb x) := by
  have l1 := columnT_len ha ra x.1
  have l2 := columnT_len hb rb x.2
  unfold scoreT
  rw [Ba.refOverlap_some (by omega) (by omega) (by omega), Ba.ovl_eq]
theorem refChoices_l1 (ha : List ByteArray) (ra : List (List ByteArray)) (hb : List ByteArray) (rb : List (List ByteArray)) (ps qs : List Int) (h1 : ra.length ≤ 1000) (h2 : rb.length ≤ 1000) (hp : ps.length ≤ 300) (hq : qs.length ≤ 300) (i : Nat) (hi : i < ps.length) (F : Nat) (R : Option (List Gr.SC))
    (H : ∀ k', F ≤ k' → tartanref13_choices.l0 k' ps qs (chosR ha ra hb rb (leftR (ps.take (i + 1)) qs)) ((i + 1 : Nat) : Int) ha ra hb rb = R) :
    ∀ (d k j : Nat), j + d = qs.length → d + F + 20000 < k → tartanref13_choices.l1 k ps qs (chosR ha ra hb rb (leftR (ps.take i) qs ++ (qs.take j).map (fun q => (rd ps (i : Int), q)))) (i : Nat) (j : Nat) ha ra hb rb = R := by
  intro d
  induction d with
  | zero =>
    intro k j hj hk
    obtain ⟨k, rfl⟩ : ∃ m, k = m + 1 := ⟨k - 1, by omega⟩
    simp only [tartanref13_choices.l1]
    rw [if_neg (by omega), wrap_upF _ (by omega), List.take_of_length_le (show qs.length ≤ j by omega), left_next ps qs i hi]
    exact H k (by omega)
  | succ d ih =>
    intro k j hj hk
    obtain ⟨k, rfl⟩ : ∃ m, k = m + 1 := ⟨k - 1, by omega⟩
    have hjl : j < qs.length := by omega
    have hI := ih k (j + 1) (by omega) (by omega)
    have hs := score_le ha ra hb rb (rd ps (i : Int), rd qs (j : Int))
    have hlen : (chosR ha ra hb rb (leftR (ps.take i) qs ++ (qs.take j).map (fun q => (rd ps (i : Int), q)))).length ≤ 90000 := by
      refine Nat.le_trans (chosR_len ha ra hb rb _) ?_
      rw [List.length_append, leftR_len, List.length_map, List.length_take, List.length_take]
      have h3 : min i ps.length * qs.length ≤ 299 * 300 := Nat.mul_le_mul (by omega) hq
      omega
    rw [take_rdI hjl, List.map_append, ← List.append_assoc] at hI
    change tartanref13_choices.l1 k ps qs (chosR ha ra hb rb (_ ++ [(rd ps (i : Int), rd qs (j : Int))])) _ _ _ _ _ _ = R at hI
    rw [chosR_snoc] at hI
    simp only [tartanref13_choices.l1]
    rw [if_pos (by omega), if_pos (by omega), if_pos (by omega), rcol_some _ _ _ h1 (by omega), Option.bind_some, if_pos (by omega), rcol_some _ _ _ h2 (by omega), Option.bind_some, refOverlap_R ha ra hb rb (rd ps (i : Int), rd qs (j : Int)) h1 h2 (by omega), Option.bind_some, wrap_upF _ (by omega)]
    have hm := mayR_iff (ra := ra.length) (rb := rb.length) hs.1 (by omega)
    unfold chR at hI
    by_cases c1 : wrap64 (2 * scoreT ha ra hb rb (rd ps (i : Int), rd qs (j : Int))) > (ra.length : Int)
    · rw [if_pos c1]
      by_cases c2 : wrap64 (2 * scoreT ha ra hb rb (rd ps (i : Int), rd qs (j : Int))) > (rb.length : Int)
      · rw [if_pos c2, if_pos (by omega)]
        rw [if_pos (hm.2 ⟨c1, c2⟩)] at hI
        exact hI
      · rw [if_neg c2]
        rw [if_neg (fun h => c2 (hm.1 h).2), List.append_nil] at hI
        exact hI
    · rw [if_neg c1]
      rw [if_neg (fun h => c1 (hm.1 h).1), List.append_nil] at hI
      exact hI
theorem refChoices_l0 (ha : List ByteArray) (ra : List (List ByteArray)) (hb : List ByteArray) (rb : List (List ByteArray)) (ps qs : List Int) (h1 : ra.length ≤ 1000) (h2 : rb.length ≤ 1000) (hp : ps.length ≤ 300) (hq : qs.length ≤ 300) :
    ∀ (d k i : Nat), i + d = ps.length → d * 30000 + 10 < k → tartanref13_choices.l0 k ps qs (chosR ha ra hb rb (leftR (ps.take i) qs)) (i : Nat) ha ra hb rb = some (chosR ha ra hb rb (leftR ps qs)) := by
  intro d
  induction d with
  | zero =>
    intro k i hi hk
    obtain ⟨k, rfl⟩ : ∃ m, k = m + 1 := ⟨k - 1, by omega⟩
    simp only [tartanref13_choices.l0]
    rw [if_neg (by omega), List.take_of_length_le (by omega)]
  | succ d ih =>
    intro k i hi hk
    obtain ⟨k, rfl⟩ : ∃ m, k = m + 1 := ⟨k - 1, by omega⟩
    simp only [tartanref13_choices.l0]
    rw [if_pos (by omega)]
    rw [Nat.succ_mul] at hk
    have hi0 : i < ps.length := by omega
    have hH : ∀ k', d * 30000 + 11 ≤ k' → tartanref13_choices.l0 k' ps qs (chosR ha ra hb rb (leftR (ps.take (i + 1)) qs)) ((i + 1 : Nat) : Int) ha ra hb rb = some (chosR ha ra hb rb (leftR ps qs)) := by
      intro k' hk'
      refine ih k' (i + 1) (by omega) ?_
      exact Nat.lt_of_lt_of_le (Nat.lt_succ_self _) hk'
    generalize d * 30000 = D at hk hH
    have hkd : qs.length + (D + 11) + 20000 < k := by omega
    have := refChoices_l1 ha ra hb rb ps qs h1 h2 hp hq i hi0 (D + 11) (some (chosR ha ra hb rb (leftR ps qs))) hH qs.length k 0 (by omega) hkd
    rw [List.take_zero, List.map_nil, List.append_nil] at this
    exact this
/-- What is in no pair of the same name. -/
def psR (ha hb : List ByteArray) : List Int := restR ((namedR ha hb).map (·.f0)) ha.length
def qsR (ha hb : List ByteArray) : List Int := restR ((namedR ha hb).map (·.f1)) hb.length
def chR' (ha : List ByteArray) (ra : List (List ByteArray)) (hb : List ByteArray) (rb : List (List ByteArray)) : List Gr.SC := chosR ha ra hb rb (leftR (psR ha hb) (qsR ha hb))
theorem psR_len (ha hb : List ByteArray) : (psR ha hb).length ≤ ha.length := restR_le _ _
theorem qsR_len (ha hb : List ByteArray) : (qsR ha hb).length ≤ hb.length := restR_le _ _
theorem refChoices_some (ha : List ByteArray) (ra : List (List ByteArray)) (hb : List ByteArray) (rb : List (List ByteArray)) (h1 : ra.length ≤ 1000) (h2 : rb.length ≤ 1000) (h3 : ha.length ≤ 100) (h4 : hb.length ≤ 100) {k : Nat} (hk : 10000000 ≤ k) : tartanref13_choices.f k ha ra hb rb (namedR ha hb) = some (chR' ha ra hb rb) := by
  have hl := nameK_len ha hb hb.length
  have hl' : (namedR ha hb).length ≤ 100 := Nat.le_trans hl h4
  have g1 := psR_len ha hb
  have g2 := qsR_len ha hb
  have m1 : ((ha.length : Int)).toNat * ((namedR ha hb).length + 3) ≤ 100 * 103 := Nat.mul_le_mul (by omega) (by omega)
  have m2 : ((hb.length : Int)).toNat * ((namedR ha hb).length + 3) ≤ 100 * 103 := Nat.mul_le_mul (by omega) (by omega)
  unfold tartanref13_choices.f
  rw [refRestA_some (by omega) (by omega) (by omega), Option.bind_some, refRestB_some (by omega) (by omega) (by omega), Option.bind_some]
  exact refChoices_l0 ha ra hb rb (psR ha hb) (qsR ha hb) h1 h2 (by omega) (by omega) (psR ha hb).length k 0 (by omega) (by omega)
theorem choice_at {ha : List ByteArray} {ra : List (List ByteArray)} {hb : List ByteArray} {rb : List (List ByteArray)} {x : Gr.SC} (h : x ∈ chR' ha ra hb rb) : x.f0 ∈ psR ha hb ∧ x.f1 ∈ qsR ha hb := by
  unfold chR' chosR at h
  obtain ⟨y, hy, hx⟩ := List.mem_flatMap.1 h
  unfold leftR at hy
  obtain ⟨p, hp, hy⟩ := List.mem_flatMap.1 hy
  obtain ⟨q, hq, rfl⟩ := List.mem_map.1 hy
  unfold chR at hx
  split at hx
  · rw [List.mem_singleton.1 hx]; exact ⟨hp, hq⟩
  · cases hx
theorem choice_len (ha : List ByteArray) (ra : List (List ByteArray)) (hb : List ByteArray) (rb : List (List ByteArray)) (h3 : ha.length ≤ 100) (h4 : hb.length ≤ 100) : (chR' ha ra hb rb).length ≤ 10000 := by
  refine Nat.le_trans (chosR_len ha ra hb rb _) ?_
  rw [leftR_len]
  have g1 := psR_len ha hb
  have g2 := qsR_len ha hb
  have := Nat.mul_le_mul (show (psR ha hb).length ≤ 100 by omega) (show (qsR ha hb).length ≤ 100 by omega)
  omega
theorem choice_ok (ha : List ByteArray) (ra : List (List ByteArray)) (hb : List ByteArray) (rb : List (List ByteArray)) (h3 : ha.length ≤ 100) (h4 : hb.length ≤ 100) : Gr.okC (chR' ha ra hb rb) = true := by
  have hl := choice_len ha ra hb rb h3 h4
  unfold Gr.okC
  rw [Bool.and_eq_true]
  refine ⟨decide_eq_true (by omega), List.all_eq_true.2 fun x hx => ?_⟩
  obtain ⟨h1, h2⟩ := choice_at hx
  have g1 := mem_restR.1 h1
  have g2 := mem_restR.1 h2
  rw [wf_small (by omega) (by omega), wf_small (by omega) (by omega)]; rfl
/-- Those that may be renamed. -/
def moreR (ha : List ByteArray) (ra : List (List ByteArray)) (hb : List ByteArray) (rb : List (List ByteArray)) : List PS := Gr.pickR (chR' ha ra hb rb)
theorem more_at {ha : List ByteArray} {ra : List (List ByteArray)} {hb : List ByteArray} {rb : List (List ByteArray)} {z : PS} (h : z ∈ moreR ha ra hb rb) : z.f0 ∈ psR ha hb ∧ z.f1 ∈ qsR ha hb := by
  obtain ⟨x, hx, rfl, _, _⟩ := Gr.pickL_from (Gr.mem_pick.1 h)
  exact choice_at hx
theorem all_nd1 (ha : List ByteArray) (ra : List (List ByteArray)) (hb : List ByteArray) (rb : List (List ByteArray)) : ((namedR ha hb ++ moreR ha ra hb rb).map (·.f1)).Nodup := by
  rw [List.map_append, List.nodup_append]
  refine ⟨str_nd1 (nameK_str ha hb _), str_nd1 (Gr.pick_str _), fun a h1 b h2 e => ?_⟩
  subst e
  obtain ⟨z, hz, rfl⟩ := List.mem_map.1 h2
  exact (mem_restR.1 (more_at hz).2).2.2 h1
theorem turn_perm (x : List PS) : (turnR x).Perm (x.map swp) := by
  have := Gr.perm_fold (x.map swp) []
  rw [List.append_nil] at this
  exact this
theorem swp_swp (x : List PS) : (x.map swp).map swp = x := by
  rw [List.map_map]
  have : swp ∘ swp = id := by funext p; rfl
  rw [this, List.map_id]
theorem turn_turn (x : List PS) : (turnR (turnR x)).Perm x := by
  have h1 := turn_perm (turnR x)
  have h2 := (turn_perm x).map swp
  rw [swp_swp] at h2
  exact h1.trans h2
theorem turn_sort (x : List PS) : Gr.SortB (turnR x) := Gr.sort_fold _ _ List.Pairwise.nil
/-- Columns that are the same, in order. -/
def bothR (ha : List ByteArray) (ra : List (List ByteArray)) (hb : List ByteArray) (rb : List (List ByteArray)) : List PS := turnR (turnR (namedR ha hb ++ moreR ha ra hb rb))
theorem both_fold (ha : List ByteArray) (ra : List (List ByteArray)) (hb : List ByteArray) (rb : List (List ByteArray)) : bothR ha ra hb rb = (moreR ha ra hb rb).foldl Gr.putP (namedR ha hb) := by
  have h1 := Gr.fold_unique (turn_turn (namedR ha hb ++ moreR ha ra hb rb)) (turn_sort _) (all_nd1 ha ra hb rb)
  have hs : Gr.SortB (namedR ha hb) := (nameK_str ha hb _).imp (fun h => by omega)
  have h2 := Gr.fold_unique (l := namedR ha hb ++ moreR ha ra hb rb) ((Gr.perm_fold (moreR ha ra hb rb) (namedR ha hb)).trans List.perm_append_comm) (Gr.sort_fold _ _ hs) (all_nd1 ha ra hb rb)
  exact h1.trans h2.symm
theorem refAlign_l0 (m : List PS) (hm : m.length ≤ 10000) : ∀ (d k i : Nat) (s : List PS), i + d = m.length → Gr.SortB s → s.length ≤ 1000 + i → d + 30000 < k → tartanref13_Align.l0 k s m (i : Nat) = some ((m.drop i).foldl Gr.putP s, 0) := by
  intro d
  induction d with
  | zero =>
    intro k i s hi hs hl hk
    obtain ⟨k, rfl⟩ : ∃ m, k = m + 1 := ⟨k - 1, by omega⟩
    simp only [tartanref13_Align.l0]
    rw [if_neg (by omega), List.drop_eq_nil_of_le (by omega)]; rfl
  | succ d ih =>
    intro k i s hi hs hl hk
    obtain ⟨k, rfl⟩ : ∃ m, k = m + 1 := ⟨k - 1, by omega⟩
    simp only [tartanref13_Align.l0]
    rw [if_pos (by omega), if_pos (by omega), Gr.refPut_some hs (by omega) (by omega), Option.bind_some, wrap_upF _ (by omega), List.drop_eq_getElem_cons (by omega), List.foldl_cons]
    have e : (⟨(rd_T37 m (i : Int)).f0, (rd_T37 m (i : Int)).f1⟩ : PS) = m[i] := Gr.rdP_get (by omega)
    rw [e]
    exact ih k (i + 1) _ (by omega) (Gr.sort_put _ _ hs) (by rw [Gr.putP_len]; omega) (by omega)
/-- What Align tells. -/
def alignR (ha : List ByteArray) (ra : List (List ByteArray)) (hb : List ByteArray) (rb : List (List ByteArray)) (rename : Bool) : List PS × Int :=
  if checkT ha ra ≠ 0 then ([], checkT ha ra) else if checkT hb rb ≠ 0 then ([], checkT hb rb) else if rename = true then (bothR ha ra hb rb, 0) else (namedR ha hb, 0)
theorem more_len (ha : List ByteArray) (ra : List (List ByteArray)) (hb : List ByteArray) (rb : List (List ByteArray)) (h3 : ha.length ≤ 100) (h4 : hb.length ≤ 100) : (moreR ha ra hb rb).length ≤ 10000 := Nat.le_trans (Gr.pick_len _) (choice_len ha ra hb rb h3 h4)
theorem align_some {ha : List ByteArray} {ra : List (List ByteArray)} {hb : List ByteArray} {rb : List (List ByteArray)} (sa : Sm ha ra) (sb : Sm hb rb) (oa : okT ha ra = true) (ob : okT hb rb = true) (ca : okCells ra = true) (cb : okCells rb = true) (rename : Bool) : cols_Align.f ha ra hb rb rename = some (alignR ha ra hb rb rename) := by
  have h1 := sa.h
  have h2 := sa.r
  have h3 := sb.h
  have h4 := sb.r
  have g1 := psR_len ha hb
  have g2 := qsR_len ha hb
  have hl : (namedR ha hb).length ≤ hb.length := nameK_len ha hb hb.length
  have hok := named_ok ha hb h1 h3
  unfold cols_Align.f alignR
  rw [if_pos ⟨oa, ob⟩]
  split
  · rfl
  · split
    · rfl
    · rw [named_some ha ra hb rb h1 h3 (by omega), Option.bind_some]
      split
      · unfold alignK
        rw [show pairs_RestA.f (namedR ha hb) ha.length = some (psR ha hb) from if_pos ⟨hok, by omega⟩, Option.bind_some, show pairs_RestB.f (namedR ha hb) hb.length = some (qsR ha hb) from if_pos ⟨hok, by omega⟩, Option.bind_some,
          if_pos ⟨⟨ca, cb⟩, ⟨by omega, by omega⟩, by omega, by omega, by omega⟩, show Gr.greedy_Pick.f (chosR ha ra hb rb (leftR (psR ha hb) (qsR ha hb))) = some (moreR ha ra hb rb) from if_pos (choice_ok ha ra hb rb h1 h3), Option.bind_some,
          if_pos (more_len ha ra hb rb h1 h3), Option.bind_some]
        rfl
      · rfl
theorem refAlign_some {ha : List ByteArray} {ra : List (List ByteArray)} {hb : List ByteArray} {rb : List (List ByteArray)} (sa : Sm ha ra) (sb : Sm hb rb) (rename : Bool) {k : Nat} (hk : 500000000 ≤ k) : tartanref13_Align.f k ha ra hb rb rename = some (alignR ha ra hb rb rename) := by
  have h1 := sa.h
  have h2 := sa.r
  have h3 := sb.h
  have h4 := sb.r
  have hl : (namedR ha hb).length ≤ hb.length := nameK_len ha hb hb.length
  have hc := choice_len ha ra hb rb h1 h3
  have hm : (chR' ha ra hb rb).length * (3 * (chR' ha ra hb rb).length + 10) ≤ 10000 * 30010 := Nat.mul_le_mul hc (by omega)
  unfold tartanref13_Align.f alignR
  rw [chk_some ha ra sa (by omega), Option.bind_some]
  by_cases c1 : checkT ha ra = 0
  · rw [if_pos c1, if_neg (fun h => h c1), chk_some hb rb sb (by omega), Option.bind_some]
    by_cases c2 : checkT hb rb = 0
    · rw [if_pos c2, if_neg (fun h => h c2), refNamed_some ha ra hb rb h1 h3 (by omega), Option.bind_some]
      split
      · rw [refChoices_some ha ra hb rb (by omega) (by omega) h1 h3 (by omega), Option.bind_some, Gr.refPick_some (by omega) (by omega), Option.bind_some]
        have := refAlign_l0 (moreR ha ra hb rb) (more_len ha ra hb rb h1 h3) (moreR ha ra hb rb).length k 0 (namedR ha hb) (by omega) ((nameK_str ha hb _).imp (fun h => by omega)) (by omega) (by have := more_len ha ra hb rb h1 h3; omega)
        rw [List.drop_zero, ← both_fold] at this
        exact this
      · rfl
    · rw [if_neg c2, if_pos c2]
  · rw [if_neg c1, if_pos c1]
end Go.Proofs.Ytoefeboikkhdkaa.X
end
section
namespace Go.Proofs.Ytoefeboikkhdkaa.X
open Go.RowKit Go.Proofs.YtoefeboikkhdkaaW.PrintWords
set_option linter.unusedVariables false
theorem okCells_of {x : S25} (h : okT25 x) : okCells x.f1 = true := by
  unfold okCells
  exact List.all_eq_true.2 fun r hr => List.all_eq_true.2 fun s hs => decide_eq_true ((h.2.2 r hr).2 s hs)
theorem okT_of {x : S25} (h : okT25 x) (s : Sm x.f0 x.f1) : okT x.f0 x.f1 = true := s.ok (fun y hy => h.1.2 y hy)
theorem alignC {a b : S25} (oa : okT25 a) (ob : okT25 b) (sa : Sm a.f0 a.f1) (sb : Sm b.f0 b.f1) (rename : Bool) : cols_Align.f a.f0 a.f1 b.f0 b.f1 rename = some (alignR a.f0 a.f1 b.f0 b.f1 rename) :=
  align_some sa sb (okT_of oa sa) (okT_of ob sb) (okCells_of oa) (okCells_of ob) rename
end Go.Proofs.Ytoefeboikkhdkaa.X
end
section
namespace Go.Proofs.Ytoefeboikkhdkaa.X
open Go.RowKit Go.Proofs.YtoefeboikkhdkaaW.PrintWords
set_option linter.unusedVariables false
theorem alignR_len (ha : List ByteArray) (ra : List (List ByteArray)) (hb : List ByteArray) (rb : List (List ByteArray)) (h3 : ha.length ≤ 100) (h4 : hb.length ≤ 100) (rename : Bool) : (alignR ha ra hb rb rename).1.length ≤ 20000 := by
  have hl : (namedR ha hb).length ≤ hb.length := nameK_len ha hb hb.length
  have hm := more_len ha ra hb rb h3 h4
  have hb2 : (bothR ha ra hb rb).length ≤ 20000 := by
    unfold bothR
    rw [turnR_len, turnR_len, List.length_append]; omega
  unfold alignR
  split
  · exact Nat.zero_le _
  · split
    · exact Nat.zero_le _
    · split
      · exact hb2
      · show (namedR ha hb).length ≤ _; omega
theorem pure_ColsAlign : ∀ (x0 : S25) (x1 : S25) (x2 : Bool), okT25 x0 → okT25 x1 → okT4 x2 → ∃ k, tartanlaw13_ColsAlign.f k x0.f0 x0.f1 x1.f0 x1.f1 x2 = some true := by
  intro x0 x1 x2 o0 o1 _
  obtain ⟨k, hk⟩ := fuel13
  refine ⟨k + 60, ?_⟩
  unfold tartanlaw13_ColsAlign.f
  rw [works13, Option.bind_some, if_pos rfl]
  obtain ⟨b, e, hb⟩ := fewT x0.f0 x0.f1 (k := k + 60) (by omega)
  rw [e, Option.bind_some]
  have hno : tartanlaw13_ColsAlign.j0 (k + 60) x2 true false x0.f0 x0.f1 x1.f0 x1.f1 = some true := by
    show tartanlaw13_ColsAlign.j0 ((k + 59) + 1) x2 true false x0.f0 x0.f1 x1.f0 x1.f1 = some true
    simp only [tartanlaw13_ColsAlign.j0]
    rw [if_neg (by decide)]
  cases b with
  | false => rw [if_neg (by decide)]; exact hno
  | true =>
    have s0 := hb rfl
    rw [if_pos rfl]
    obtain ⟨c, e1, hc⟩ := fewT x1.f0 x1.f1 (k := k + 60) (by omega)
    rw [e1, Option.bind_some]
    cases c with
    | false => exact hno
    | true =>
      have s1 := hc rfl
      have h1 := s0.h
      have h2 := s1.h
      have hl := alignR_len x0.f0 x0.f1 x1.f0 x1.f1 h1 h2 x2
      have hn : (namedR x0.f0 x1.f0).length ≤ x1.f0.length := nameK_len _ _ _
      show tartanlaw13_ColsAlign.j0 ((k + 59) + 1) x2 true true x0.f0 x0.f1 x1.f0 x1.f1 = some true
      simp only [tartanlaw13_ColsAlign.j0]
      rw [if_pos trivial, alignC o0 o1 s0 s1, Option.bind_some, refAlign_some s0 s1 x2 (by omega), Option.bind_some, Gr.refSame_some (by omega) (by omega), Option.bind_some, if_pos (Gr.sameB_refl _), named_some _ _ _ _ h1 h2 (by omega), Option.bind_some, refNamed_some _ _ _ _ h1 h2 (by omega), Option.bind_some, Gr.refSame_some (by omega) (by omega), Option.bind_some, if_pos trivial, if_pos (Gr.sameB_refl _)]
      simp
end Go.Proofs.Ytoefeboikkhdkaa.X
end
