/- What the reference of layer 10 computes, and what the laws say of the pick. -/
import Derived.Test.YtchpgkojlhipgaaGPick
import Derived.Test.YtchpgkojlhipgaaX5
import Derived.Test.YtchpgkojlhipgaaX5
import Derived.Test.YtchpgkojlhipgaaX5
import Derived.Test.YtchpgkojlhipgaaX6
import Derived.Test.YtchpgkojlhipgaaX7
namespace Go.Proofs.Ytchpgkojlhipgaa.X
open Go.RowKit Go.Proofs.YtchpgkojlhipgaaW.PrintWords
set_option linter.unusedVariables false

theorem works10 : ∀ k, tartanlaw10_works.f (k + 30) = some true := by intro k; kernel_rfl
theorem better_some (k : Nat) (x y : SC) : greedy_Better.f (k + 5) x.f0 x.f1 x.f2 y.f0 y.f1 y.f2 = some (decide (Bet x y)) := by
  unfold greedy_Better.f
  rw [compare_some, Option.bind_some]
  congr 1
  rw [Bool.eq_iff_iff, decide_eq_true_eq, decide_eq_true_eq, cmpR_lt]
theorem refBetter_some (x y : SC) : tartanref10_Better.f x.f0 x.f1 x.f2 y.f0 y.f1 y.f2 = some (decide (Bet x y)) := by
  unfold tartanref10_Better.f
  split
  · rename_i h2
    split
    · rename_i h0
      congr 1
      rw [Bool.eq_iff_iff, decide_eq_true_eq, decide_eq_true_eq]; unfold Bet
      omega
    · rename_i h0
      congr 1
      rw [Bool.eq_iff_iff, decide_eq_true_eq, decide_eq_true_eq]; unfold Bet
      omega
  · congr 1
    rw [Bool.eq_iff_iff, decide_eq_true_eq, decide_eq_true_eq]; unfold Bet
    omega
theorem pick_some {l : List SC} (h : okC l = true) : greedy_Pick.f l = some (pickR l) := by unfold greedy_Pick.f; rw [if_pos h]

theorem sorted_sortC (l : List SC) : (sortC l).Pairwise (fun a b => leC a b = true) := sort_isort leC leC_tot leC_trans l
theorem sortC_perm {l x : List SC} (h : l.Perm x) : sortC l = sortC x :=
  sorted_unique leC leC_anti _ _ ((perm_isort leC l).trans (h.trans (perm_isort leC x).symm)) (sorted_sortC l) (sorted_sortC x)
theorem pick_perm {l x : List SC} (h : l.Perm x) : pickR l = pickR x := by unfold pickR pickL; rw [sortC_perm h]
theorem mem_sortC {l : List SC} {x : SC} : x ∈ sortC l ↔ x ∈ l := (perm_isort leC l).mem_iff

/-- What is taken, out of which list. -/
theorem fold_mem (L : List SC) : ∀ out : List PS, ∀ z, z ∈ L.foldl stepK out ↔ z ∈ out ∨ z ∈ L.foldl stepK out := by
  intro out z
  constructor
  · intro h; exact .inr h
  · rintro (h | h)
    · induction L generalizing out with
      | nil => exact h
      | cons x L ih =>
        refine ih (stepK out x) ?_
        unfold stepK
        split
        · exact h
        · exact List.mem_append_left _ h
    · exact h
theorem step_sub {out : List PS} {x : SC} {z : PS} (h : z ∈ out) : z ∈ stepK out x := by
  unfold stepK; split
  · exact h
  · exact List.mem_append_left _ h
theorem fold_sub (L : List SC) : ∀ {out : List PS} {z : PS}, z ∈ out → z ∈ L.foldl stepK out := by
  induction L with
  | nil => intro out z h; exact h
  | cons x L ih => intro out z h; exact ih (step_sub h)
theorem fold_from (L : List SC) : ∀ (out : List PS) (z : PS), z ∈ L.foldl stepK out → z ∈ out ∨ ∃ x ∈ L, z = ⟨x.f0, x.f1⟩ ∧ 0 ≤ x.f0 ∧ 0 ≤ x.f1 := by
  induction L with
  | nil => intro out z h; exact .inl h
  | cons x L ih =>
    intro out z h
    rcases ih _ _ h with h | ⟨y, hy, e⟩
    · unfold stepK at h
      split at h
      · exact .inl h
      · rename_i hc
        rcases List.mem_append.1 h with h | h
        · exact .inl h
        · simp only [List.mem_singleton] at h
          exact .inr ⟨x, List.mem_cons_self, h, by omega, by omega⟩
    · exact .inr ⟨y, List.mem_cons_of_mem _ hy, e⟩
theorem pickL_from {l : List SC} {z : PS} (h : z ∈ pickL l) : ∃ x ∈ l, z = ⟨x.f0, x.f1⟩ ∧ 0 ≤ x.f0 ∧ 0 ≤ x.f1 := by
  rcases fold_from _ _ _ h with h | ⟨x, hx, e⟩
  · cases h
  · exact ⟨x, mem_sortC.1 hx, e⟩
theorem mem_pick {l : List SC} {z : PS} : z ∈ pickR l ↔ z ∈ pickL l := mem_fold
theorem stepK_nd0 {out : List PS} (h : (out.map (·.f0)).Nodup) (x : SC) : ((stepK out x).map (·.f0)).Nodup := by
  unfold stepK
  split
  · exact h
  · rename_i hc
    rw [List.map_append]
    refine List.nodup_append.2 ⟨h, by simp, fun a ha b hb e => ?_⟩
    simp only [List.map_cons, List.map_nil, List.mem_singleton] at hb
    subst hb; subst e
    exact hc (.inr (.inr (.inl (List.count_pos_iff.2 ha))))
theorem pickL_nd0 (l : List SC) : ((pickL l).map (·.f0)).Nodup := by
  unfold pickL
  suffices h : ∀ (xs : List SC) (out : List PS), (out.map (·.f0)).Nodup → ((xs.foldl stepK out).map (·.f0)).Nodup from h _ [] List.nodup_nil
  intro xs
  induction xs with
  | nil => intro out h; exact h
  | cons x xs ih => intro out h; exact ih _ (stepK_nd0 h x)
theorem pickL_nd1 (l : List SC) : ((pickL l).map (·.f1)).Nodup := by have := atK_nd l l.length; rwa [atK_all] at this
theorem pick_pm (l : List SC) : (pickR l).Perm (pickL l) := by
  have := perm_fold (pickL l) []
  rwa [List.append_nil] at this
theorem pick_nd0 (l : List SC) : ((pickR l).map (·.f0)).Nodup := ((pick_pm l).map (·.f0)).symm.nodup (pickL_nd0 l)
theorem pick_str (l : List SC) : StrB (pickR l) := str_of (sort_fold _ _ List.Pairwise.nil) (((pick_pm l).map (·.f1)).symm.nodup (pickL_nd1 l))
theorem pick_len (l : List SC) : (pickR l).length ≤ l.length := by
  have h1 := (pick_pm l).length_eq
  have h2 := atK_len l l.length
  rw [atK_all] at h2
  omega
/-- What was not taken has the A or the B of a better one that was. -/
theorem fold_best (L : List SC) : ∀ (out : List PS) (seen : List SC), (∀ z ∈ out, ∃ y ∈ seen, z = ⟨y.f0, y.f1⟩) → (∀ y ∈ seen, ∀ x ∈ L, leC y x = true) → L.Pairwise (fun a b => leC a b = true) →
    ∀ x ∈ L, 0 ≤ x.f0 → 0 ≤ x.f1 → (⟨x.f0, x.f1⟩ : PS) ∉ L.foldl stepK out → ∃ z ∈ L.foldl stepK out, (z.f0 = x.f0 ∨ z.f1 = x.f1) ∧ ∃ y, (y ∈ seen ∨ y ∈ L) ∧ z = ⟨y.f0, y.f1⟩ ∧ leC y x = true := by
  induction L with
  | nil => intro out seen _ _ _ x hx; cases hx
  | cons a L ih =>
    intro out seen hs hle hp x hx h0 h1 hn
    have hp' := List.pairwise_cons.1 hp
    rcases List.mem_cons.1 hx with rfl | hx
    · have hrej : stepK out x = out := by
        unfold stepK
        split
        · rfl
        · rename_i hc
          exfalso
          apply hn
          refine fold_sub L ?_
          unfold stepK
          rw [if_neg hc]
          exact List.mem_append_right _ (List.mem_singleton.2 rfl)
      have hc : 0 < (out.map (·.f0)).count x.f0 ∨ 0 < (out.map (·.f1)).count x.f1 := by
        rcases Decidable.em (0 < (out.map (·.f0)).count x.f0 ∨ 0 < (out.map (·.f1)).count x.f1) with h | h
        · exact h
        · exfalso
          have e : stepK out x = out ++ [⟨x.f0, x.f1⟩] := by unfold stepK; rw [if_neg (by omega)]
          have := congrArg List.length (e.symm.trans hrej)
          simp at this
      have hz : ∃ z ∈ out, z.f0 = x.f0 ∨ z.f1 = x.f1 := by
        rcases hc with h | h
        · obtain ⟨z, hz, e⟩ := List.mem_map.1 (List.count_pos_iff.1 h)
          exact ⟨z, hz, .inl e⟩
        · obtain ⟨z, hz, e⟩ := List.mem_map.1 (List.count_pos_iff.1 h)
          exact ⟨z, hz, .inr e⟩
      obtain ⟨z, hz, e⟩ := hz
      obtain ⟨y, hy, ey⟩ := hs z hz
      exact ⟨z, fold_sub L (step_sub hz), e, y, .inl hy, ey, hle y hy x List.mem_cons_self⟩
    · obtain ⟨z, hz, e, y, hy, ey, hl⟩ := ih (stepK out a) (seen ++ [a]) (fun z hz => by
          unfold stepK at hz
          split at hz
          · obtain ⟨y, hy, e⟩ := hs z hz
            exact ⟨y, List.mem_append_left _ hy, e⟩
          · rcases List.mem_append.1 hz with h | h
            · obtain ⟨y, hy, e⟩ := hs z h
              exact ⟨y, List.mem_append_left _ hy, e⟩
            · simp only [List.mem_singleton] at h
              exact ⟨a, List.mem_append_right _ (List.mem_singleton.2 rfl), h⟩)
        (fun y hy b hb => by
          rcases List.mem_append.1 hy with h | h
          · exact hle y h b (List.mem_cons_of_mem _ hb)
          · simp only [List.mem_singleton] at h
            subst h; exact hp'.1 b hb) hp'.2 x hx h0 h1 hn
      refine ⟨z, hz, e, y, ?_, ey, hl⟩
      rcases hy with hy | hy
      · rcases List.mem_append.1 hy with h | h
        · exact .inl h
        · simp only [List.mem_singleton] at h
          subst h; exact .inr List.mem_cons_self
      · exact .inr (List.mem_cons_of_mem _ hy)
theorem pick_best {l : List SC} {x : SC} (hx : x ∈ l) (h0 : 0 ≤ x.f0) (h1 : 0 ≤ x.f1) (hn : (⟨x.f0, x.f1⟩ : PS) ∉ pickR l) : ∃ z ∈ pickR l, (z.f0 = x.f0 ∨ z.f1 = x.f1) ∧ ∃ y ∈ l, z = ⟨y.f0, y.f1⟩ ∧ Bet y x := by
  rw [mem_pick] at hn
  obtain ⟨z, hz, e, y, hy, ey, hl⟩ := fold_best (sortC l) [] [] (fun z hz => by cases hz) (fun y hy => by cases hy) (sorted_sortC l) x (mem_sortC.2 hx) h0 h1 hn
  have hy' : y ∈ l := by
    rcases hy with h | h
    · cases h
    · exact mem_sortC.1 h
  refine ⟨z, mem_pick.2 hz, e, y, hy', ey, ?_⟩
  rcases Decidable.em (Bet y x) with hb | hb
  · exact hb
  · exfalso
    unfold leC at hl
    simp only [Bool.not_eq_true', decide_eq_false_iff_not] at hl
    have : y = x := bet_tot hb hl
    subst this
    exact hn (ey ▸ hz)

/-! The reference. -/
theorem dropC {l : List SC} {t : Nat} (h : t < l.length) : l.drop t = rd_T24 l (t : Int) :: l.drop (t + 1) := by
  unfold rd_T24
  rw [List.drop_eq_getElem_cons h, show ((t : Int)).toNat = t from rfl, List.getD_eq_getElem?_getD, List.getElem?_eq_getElem h]; rfl
theorem rdC_get {l : List SC} {i : Nat} (h : i < l.length) : rd_T24 l (i : Int) = l[i] := by
  unfold rd_T24
  rw [show ((i : Int)).toNat = i from rfl, List.getD_eq_getElem?_getD, List.getElem?_eq_getElem h]; rfl
def freeB (x : SC) : Bool := decide (0 ≤ x.f0 ∧ 0 ≤ x.f1)
theorem refFree_l0 (l : List SC) (hl : l.length ≤ 100000) : ∀ (d k i : Nat) (acc : List SC), i + d = l.length → acc.length ≤ i → d < k → tartanref10_free.l0 k l acc (i : Nat) = some (acc ++ (l.drop i).filter freeB) := by
  intro d
  induction d with
  | zero =>
    intro k i acc hi ha hk
    obtain ⟨k, rfl⟩ : ∃ m, k = m + 1 := ⟨k - 1, by omega⟩
    simp only [tartanref10_free.l0]
    rw [if_neg (by omega), List.drop_eq_nil_of_le (by omega)]; simp
  | succ d ih =>
    intro k i acc hi ha hk
    obtain ⟨k, rfl⟩ : ∃ m, k = m + 1 := ⟨k - 1, by omega⟩
    have ih1 := ih k (i + 1) acc (by omega) (by omega) (by omega)
    have ih2 := ih k (i + 1) (acc ++ [(⟨(rd_T24 l (i : Int)).f0, (rd_T24 l (i : Int)).f1, (rd_T24 l (i : Int)).f2⟩ : SC)]) (by omega) (by rw [List.length_append, List.length_singleton]; omega) (by omega)
    simp only [tartanref10_free.l0]
    rw [if_pos (by omega), if_pos (by omega), wrap_up _ (by omega), ih1, ih2, if_pos (show acc.length < 5864062014805 by omega), dropC (l := l) (t := i) (by omega)]
    by_cases h0 : (rd_T24 l (i : Int)).f0 ≥ 0
    · by_cases h1 : (rd_T24 l (i : Int)).f1 ≥ 0
      · rw [if_pos h0, if_pos h1, List.filter_cons, if_pos (show freeB _ = true from decide_eq_true ⟨h0, h1⟩)]; simp
      · rw [if_pos h0, if_neg h1, List.filter_cons, if_neg (by unfold freeB; simp; omega)]
    · rw [if_neg h0, List.filter_cons, if_neg (by unfold freeB; simp; omega)]
theorem refFree_some {l : List SC} (hl : l.length ≤ 100000) {k : Nat} (hk : l.length < k) : tartanref10_free.f k l = some (l.filter freeB) := by
  have := refFree_l0 l hl l.length k 0 [] (by omega) (Nat.le_refl _) hk
  simpa [tartanref10_free.f] using this
def apartB (a b : Int) (x : SC) : Bool := decide (x.f0 ≠ a ∧ x.f1 ≠ b)
theorem refWithout_l0 (l : List SC) (a b c : Int) (hl : l.length ≤ 100000) : ∀ (d k i : Nat) (acc : List SC), i + d = l.length → acc.length ≤ i → d < k → tartanref10_without.l0 k l acc (i : Nat) a b c = some (acc ++ (l.drop i).filter (apartB a b)) := by
  intro d
  induction d with
  | zero =>
    intro k i acc hi ha hk
    obtain ⟨k, rfl⟩ : ∃ m, k = m + 1 := ⟨k - 1, by omega⟩
    simp only [tartanref10_without.l0]
    rw [if_neg (by omega), List.drop_eq_nil_of_le (by omega)]; simp
  | succ d ih =>
    intro k i acc hi ha hk
    obtain ⟨k, rfl⟩ : ∃ m, k = m + 1 := ⟨k - 1, by omega⟩
    have ih1 := ih k (i + 1) acc (by omega) (by omega) (by omega)
    have ih2 := ih k (i + 1) (acc ++ [(⟨(rd_T24 l (i : Int)).f0, (rd_T24 l (i : Int)).f1, (rd_T24 l (i : Int)).f2⟩ : SC)]) (by omega) (by rw [List.length_append, List.length_singleton]; omega) (by omega)
    simp only [tartanref10_without.l0]
    rw [if_pos (by omega), if_pos (by omega), wrap_up _ (by omega), ih1, ih2, if_pos (show acc.length < 5864062014805 by omega), dropC (l := l) (t := i) (by omega)]
    by_cases h0 : (rd_T24 l (i : Int)).f0 = a
    · rw [if_pos h0, List.filter_cons, if_neg (by unfold apartB; simp [h0])]
    · by_cases h1 : (rd_T24 l (i : Int)).f1 = b
      · rw [if_neg h0, if_pos h1, List.filter_cons, if_neg (by unfold apartB; simp [h1])]
      · rw [if_neg h0, if_neg h1, List.filter_cons, if_pos (show apartB a b _ = true from decide_eq_true ⟨h0, h1⟩)]; simp
theorem refWithout_some {l : List SC} {a b c : Int} (hl : l.length ≤ 100000) {k : Nat} (hk : l.length < k) : tartanref10_without.f k l a b c = some (l.filter (apartB a b)) := by
  have := refWithout_l0 l a b c hl l.length k 0 [] (by omega) (Nat.le_refl _) hk
  simpa [tartanref10_without.f] using this
/-- What may still be taken. -/
def av (out : List PS) (x : SC) : Bool := decide (0 ≤ x.f0 ∧ 0 ≤ x.f1 ∧ (out.map (·.f0)).count x.f0 = 0 ∧ (out.map (·.f1)).count x.f1 = 0)
theorem refPick_l1 (taken : List PS) (rest : List SC) (hr : rest.length ≤ 100000) (ht : taken.length ≤ 100000) (hts : SortB taken) (F : Nat) (R : Option (List PS)) (x : SC) (hmin : ∀ y ∈ rest, ¬ Bet y x) (hx : x ∈ rest) (hF : taken.length < F ∧ rest.length < F)
    (H : ∀ k, F < k → tartanref10_Pick.l0 k (putP taken ⟨x.f0, x.f1⟩) (rest.filter (apartB x.f0 x.f1)) = R) :
    ∀ (d k i b : Nat), i + d = rest.length → d + F + 1 < k → b < i → (∀ j, j < i → ¬ Bet (rd_T24 rest (j : Int)) (rd_T24 rest (b : Int))) → tartanref10_Pick.l1 k taken rest (b : Nat) (i : Nat) = R := by
  intro d
  induction d with
  | zero =>
    intro k i b hi hk hb hall
    obtain ⟨k, rfl⟩ : ∃ m, k = m + 1 := ⟨k - 1, by omega⟩
    have hbx : rd_T24 rest (b : Int) = x := by
      obtain ⟨j, hj, e⟩ := List.getElem_of_mem hx
      have h1 := hall j (by omega)
      rw [rdC_get hj, e] at h1
      exact bet_tot (hmin _ (rdC_mem (by omega))) h1
    simp only [tartanref10_Pick.l1]
    rw [if_neg (by omega), if_pos (by omega), if_pos (by omega), hbx, refPut_some hts ht (by omega), Option.bind_some, refWithout_some hr (by omega), Option.bind_some]
    exact H k (by omega)
  | succ d ih =>
    intro k i b hi hk hb hall
    obtain ⟨k, rfl⟩ : ∃ m, k = m + 1 := ⟨k - 1, by omega⟩
    simp only [tartanref10_Pick.l1]
    rw [if_pos (by omega), if_pos (by omega), if_pos (by omega), if_pos (by omega), refBetter_some, Option.bind_some, wrap_up _ (by omega)]
    by_cases c : Bet (rd_T24 rest (i : Int)) (rd_T24 rest (b : Int))
    · rw [if_pos (decide_eq_true c)]
      refine ih k (i + 1) i (by omega) (by omega) (by omega) fun j hj => ?_
      rcases Nat.lt_or_ge j i with h | h
      · intro h2; exact hall j h (bet_trans h2 c)
      · obtain rfl : j = i := by omega
        exact bet_irr _
    · rw [if_neg (by simpa using c)]
      refine ih k (i + 1) b (by omega) (by omega) (by omega) fun j hj => ?_
      rcases Nat.lt_or_ge j i with h | h
      · exact hall j h
      · obtain rfl : j = i := by omega
        exact c
theorem refPick_l0 (B : Nat) (hB : B ≤ 50000) : ∀ (L : List SC), L.Pairwise (fun a b => leC a b = true) → ∀ (out : List PS) (rest : List SC) (k : Nat), rest.Perm (L.filter (av out)) → out.length + L.length ≤ B → L.length * (3 * B + 10) + 3 * B + 10 < k →
    tartanref10_Pick.l0 k (out.foldl putP []) rest = some ((L.foldl stepK out).foldl putP []) := by
  intro L
  induction L with
  | nil =>
    intro hp out rest k hr hlen hk
    obtain ⟨k, rfl⟩ : ∃ m, k = m + 1 := ⟨k - 1, by omega⟩
    have : rest = [] := List.Perm.eq_nil (by simpa using hr)
    subst this
    simp only [tartanref10_Pick.l0]
    rw [if_neg (by simp)]; rfl
  | cons x L ih =>
    intro hp out rest k hr hlen hk
    have hp' := List.pairwise_cons.1 hp
    rw [List.length_cons] at hlen hk
    rw [Nat.succ_mul] at hk
    by_cases c : av out x = true
    · have c' := of_decide_eq_true c
      rw [List.filter_cons, if_pos c] at hr
      have e : stepK out x = out ++ [⟨x.f0, x.f1⟩] := by unfold stepK; rw [if_neg (by omega)]
      rw [List.foldl_cons, e]
      have hrl : rest.length ≤ L.length + 1 := by
        rw [hr.length_eq, List.length_cons]
        have := List.length_filter_le (av out) L
        omega
      have hx : x ∈ rest := hr.mem_iff.2 List.mem_cons_self
      have hmin : ∀ y ∈ rest, ¬ Bet y x := by
        intro y hy
        rcases List.mem_cons.1 (hr.mem_iff.1 hy) with rfl | hy
        · exact bet_irr _
        · have h1 := hp'.1 y (List.mem_filter.1 hy).1
          unfold leC at h1
          simpa using h1
      have hfl : (out.foldl putP []).length = out.length := by rw [foldl_put_len]; simp
      have hpos := List.length_pos_of_mem hx
      have hfil : (rest.filter (apartB x.f0 x.f1)).Perm (L.filter (av (out ++ [⟨x.f0, x.f1⟩]))) := by
        have h1 := hr.filter (apartB x.f0 x.f1)
        rw [List.filter_cons, if_neg (by unfold apartB; simp), List.filter_filter] at h1
        refine h1.trans (List.Perm.of_eq (List.filter_congr fun y _ => ?_))
        unfold apartB av
        rw [Bool.eq_iff_iff, Bool.and_eq_true, decide_eq_true_eq, decide_eq_true_eq, decide_eq_true_eq, List.map_append, List.map_append, List.count_append, List.count_append]
        simp only [List.map_cons, List.map_nil, List.count_singleton, beq_iff_eq]
        constructor
        · rintro ⟨⟨q1, q2⟩, q3, q4, q5, q6⟩
          refine ⟨q3, q4, ?_, ?_⟩
          · rw [if_neg (fun h => q1 h.symm)]; omega
          · rw [if_neg (fun h => q2 h.symm)]; omega
        · rintro ⟨q3, q4, q5, q6⟩
          refine ⟨⟨fun h => ?_, fun h => ?_⟩, q3, q4, by omega, by omega⟩
          · rw [if_pos h.symm] at q5; omega
          · rw [if_pos h.symm] at q6; omega
      obtain ⟨k, rfl⟩ : ∃ m, k = m + 1 := ⟨k - 1, by omega⟩
      simp only [tartanref10_Pick.l0]
      rw [if_pos (by omega)]
      refine refPick_l1 (out.foldl putP []) rest (by omega) (by omega) (sort_fold _ _ List.Pairwise.nil) (L.length * (3 * B + 10) + 3 * B + 10) _ x hmin hx ⟨by omega, by omega⟩ (fun k' hk' => ?_) (rest.length - 1) k 1 0 (by omega) (by omega) (by omega) (fun j hj => ?_)
      · have h2 := ih hp'.2 (out ++ [⟨x.f0, x.f1⟩]) _ k' hfil (by rw [List.length_append, List.length_singleton]; omega) hk'
        rw [List.foldl_append] at h2
        exact h2
      · obtain rfl : j = 0 := by omega
        exact bet_irr _
    · rw [List.filter_cons, if_neg c] at hr
      have e : stepK out x = out := by
        unfold stepK
        unfold av at c
        rw [decide_eq_true_eq] at c
        rw [if_pos]
        omega
      rw [List.foldl_cons, e]
      exact ih hp'.2 out rest k hr (by omega) (by omega)
theorem refPick_some {l : List SC} (hl : l.length ≤ 1000) {k : Nat} (hk : l.length * (3 * l.length + 10) + 3 * l.length + 10 < k) : tartanref10_Pick.f k l = some (pickR l) := by
  unfold tartanref10_Pick.f
  rw [refFree_some (by omega) (by omega), Option.bind_some]
  have hpm : (l.filter freeB).Perm ((sortC l).filter (av [])) := by
    have h1 := ((perm_isort leC l).filter freeB).symm
    refine h1.trans (List.Perm.of_eq (List.filter_congr fun y _ => ?_))
    unfold freeB av
    simp
  have hs := sortC_len l
  exact refPick_l0 l.length (by omega) (sortC l) (sorted_sortC l) [] (l.filter freeB) k hpm (by simp [hs]) (by rw [hs]; exact hk)
end Go.Proofs.Ytchpgkojlhipgaa.X
