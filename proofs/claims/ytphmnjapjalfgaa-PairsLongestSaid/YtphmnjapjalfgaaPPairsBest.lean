/- No choice of rising ones is longer than what is still, and of as long ones none begins further ahead. -/
import Derived.Test.YtphmnjapjalfgaaPPairsOk
namespace Go.Proofs.Ytphmnjapjalfgaa.X
open Go.RowKit Go.Proofs.YtphmnjapjalfgaaW.PrintWords
set_option linter.unusedVariables false

theorem mxAfter_ge (a : Int) : ∀ (bs : List Int) (ns : List Nat) (j : Nat), j < bs.length → j < ns.length → a < bs.getD j 0 → ns.getD j 0 ≤ mxAfter a bs ns
  | [], _, j, h, _, _ => by simp at h
  | _ :: _, [], j, _, h, _ => by simp at h
  | b :: bs, n :: ns, 0, _, _, h => by
    unfold mxAfter
    simp only [List.getD_cons_zero] at h ⊢
    rw [if_pos h]; omega
  | b :: bs, n :: ns, j + 1, h1, h2, h => by
    have := mxAfter_ge a bs ns j (by simpa using h1) (by simpa using h2) (by simpa using h)
    unfold mxAfter
    simp only [List.getD_cons_succ]
    omega
theorem mxAfter_att (a : Int) : ∀ (bs : List Int) (ns : List Nat), bs.length = ns.length → mxAfter a bs ns = 0 ∨ ∃ j, j < bs.length ∧ a < bs.getD j 0 ∧ ns.getD j 0 = mxAfter a bs ns
  | [], _, _ => .inl (by simp [mxAfter])
  | _ :: _, [], h => by simp at h
  | b :: bs, n :: ns, h => by
    have ih := mxAfter_att a bs ns (by simpa using h)
    unfold mxAfter
    by_cases c : a < b
    · rw [if_pos c]
      rcases Nat.lt_or_ge n (mxAfter a bs ns) with h1 | h1
      · rcases ih with h0 | ⟨j, hj, hb, hn⟩
        · omega
        · exact .inr ⟨j + 1, by simpa using hj, by simpa using hb, by simp only [List.getD_cons_succ]; omega⟩
      · exact .inr ⟨0, by simp, by simpa using c, by simp only [List.getD_cons_zero]; omega⟩
    · rw [if_neg c]
      rcases ih with h0 | ⟨j, hj, hb, hn⟩
      · exact .inl (by omega)
      · exact .inr ⟨j + 1, by simpa using hj, by simpa using hb, by simp only [List.getD_cons_succ]; omega⟩
/-- How long a choice can be that begins there. -/
def Lv (l : List PS) (i : Nat) : Nat := (lng (As l)).getD i 0
def Av (l : List PS) (i : Nat) : Int := (rd_T37 l (i : Int)).f0
theorem rd_lngI (l : List PS) {i : Nat} (h : i < l.length) : rd (lngI l) (i : Int) = (Lv l i : Int) := by
  unfold rd Lv
  rw [show ((i : Int)).toNat = i from rfl]
  unfold lngI
  have hN : (lng (As l)).length = l.length := by rw [lng_len]; simp
  rw [List.getD_eq_getElem?_getD, List.getElem?_map, List.getD_eq_getElem?_getD, List.getElem?_eq_getElem (by omega)]; rfl
theorem drop_getD {α : Type} (xs : List α) (n j : Nat) (d : α) : (xs.drop n).getD j d = xs.getD (n + j) d := by
  rw [List.getD_eq_getElem?_getD, List.getD_eq_getElem?_getD, List.getElem?_drop]
theorem Lv_at (l : List PS) {i : Nat} (h : i < l.length) : Lv l i = mxAfter (Av l i) ((As l).drop (i + 1)) ((lng (As l)).drop (i + 1)) + 1 := by
  unfold Lv Av
  rw [lng_at _ _ (by simpa using h), As_get l h]
theorem Lv_up (l : List PS) {i k : Nat} (hik : i < k) (hk : k < l.length) (ha : Av l i < Av l k) : Lv l k + 1 ≤ Lv l i := by
  have hN : (lng (As l)).length = l.length := by rw [lng_len]; simp
  have hA : (As l).length = l.length := by simp
  rw [Lv_at l (i := i) (by omega)]
  have := mxAfter_ge (Av l i) ((As l).drop (i + 1)) ((lng (As l)).drop (i + 1)) (k - (i + 1)) (by rw [List.length_drop]; omega) (by rw [List.length_drop]; omega)
    (by rw [drop_getD, show i + 1 + (k - (i + 1)) = k from by omega, As_get l hk]; exact ha)
  rw [drop_getD, show i + 1 + (k - (i + 1)) = k from by omega] at this
  unfold Lv
  omega
theorem Lv_next (l : List PS) {i : Nat} (h : i < l.length) (h2 : 2 ≤ Lv l i) : ∃ k, i < k ∧ k < l.length ∧ Av l i < Av l k ∧ Lv l k + 1 = Lv l i := by
  have hN : (lng (As l)).length = l.length := by rw [lng_len]; simp
  have hA : (As l).length = l.length := by simp
  rw [Lv_at l h] at h2 ⊢
  rcases mxAfter_att (Av l i) ((As l).drop (i + 1)) ((lng (As l)).drop (i + 1)) (by rw [List.length_drop, List.length_drop]; omega) with h0 | ⟨j, hj, hb, hn⟩
  · omega
  · rw [List.length_drop] at hj
    rw [drop_getD, As_get l (by omega)] at hb
    rw [drop_getD] at hn
    exact ⟨i + 1 + j, by omega, by omega, hb, by unfold Lv; omega⟩
theorem Lv_pos (l : List PS) {i : Nat} (h : i < l.length) : 1 ≤ Lv l i := by rw [Lv_at l h]; omega

/-- The most. -/
def Mst (l : List PS) : Int := (lngI l).foldl max (rd (lngI l) 0)
theorem foldl_max_ge : ∀ (xs : List Int) (a : Int), a ≤ xs.foldl max a ∧ ∀ x ∈ xs, x ≤ xs.foldl max a
  | [], a => ⟨Int.le_refl _, fun x h => by cases h⟩
  | y :: xs, a => by
    have ih := foldl_max_ge xs (max a y)
    rw [List.foldl_cons]
    refine ⟨by omega, fun x h => ?_⟩
    rcases List.mem_cons.1 h with rfl | h
    · omega
    · exact ih.2 x h
theorem foldl_max_att : ∀ (xs : List Int) (a : Int), xs.foldl max a = a ∨ xs.foldl max a ∈ xs
  | [], a => .inl rfl
  | y :: xs, a => by
    rw [List.foldl_cons]
    rcases foldl_max_att xs (max a y) with h | h
    · rcases Int.le_total a y with h2 | h2
      · right; rw [h, show max a y = y from by omega]; exact List.mem_cons_self
      · left; rw [h]; omega
    · exact .inr (List.mem_cons_of_mem _ h)
theorem rd_memI {xs : List Int} {i : Nat} (h : i < xs.length) : rd xs (i : Int) ∈ xs := by
  unfold rd
  rw [show ((i : Int)).toNat = i from rfl, List.getD_eq_getElem?_getD, List.getElem?_eq_getElem h]
  exact List.getElem_mem h
theorem Mst_ge (l : List PS) {i : Nat} (h : i < l.length) : (Lv l i : Int) ≤ Mst l := by
  rw [← rd_lngI l h]
  exact (foldl_max_ge (lngI l) _).2 _ (rd_memI (by rw [lngI_len]; exact h))
theorem Mst_att (l : List PS) (h : 0 < l.length) : ∃ i, i < l.length ∧ (Lv l i : Int) = Mst l := by
  have hm : Mst l ∈ lngI l := by
    rcases foldl_max_att (lngI l) (rd (lngI l) 0) with e | e
    · unfold Mst; rw [e]; exact rd_memI (i := 0) (by rw [lngI_len]; exact h)
    · exact e
  obtain ⟨i, hi, e⟩ := List.getElem_of_mem hm
  rw [lngI_len] at hi
  refine ⟨i, hi, ?_⟩
  rw [← e, ← rd_lngI l hi]
  unfold rd
  rw [show ((i : Int)).toNat = i from rfl, List.getD_eq_getElem?_getD, List.getElem?_eq_getElem (by rw [lngI_len]; exact hi)]; rfl

/-- What stands behind the first j of a choice. -/
def After (l : List PS) (out : List Nat) (j i : Nat) : Prop := j = 0 ∨ (out.getD (j - 1) 0 < i ∧ Av l (out.getD (j - 1) 0) < Av l i)
structure Inv (l : List PS) (t : Nat) (want : Int) (out : List Nat) : Prop where
  sum : (out.length : Int) + want = Mst l
  wn : 0 ≤ want
  rng : ∀ j, j < out.length → out.getD j 0 < t
  lv : ∀ j, j < out.length → (Lv l (out.getD j 0) : Int) = Mst l - j
  inc : ∀ j, j < out.length → After l out j (out.getD j 0)
  min : ∀ j, j < out.length → ∀ i, i < out.getD j 0 → After l out j i → (Lv l i : Int) ≠ Mst l - j
  pend : ∀ i, i < t → After l out out.length i → (Lv l i : Int) ≠ want
theorem getD_snoc (out : List Nat) (t j : Nat) : (out ++ [t]).getD j 0 = if j < out.length then out.getD j 0 else if j = out.length then t else 0 := by
  rw [List.getD_eq_getElem?_getD]
  rcases Nat.lt_trichotomy j out.length with h | h | h
  · rw [if_pos h, List.getElem?_append_left h, List.getD_eq_getElem?_getD]
  · rw [if_neg (by omega), if_pos h, List.getElem?_append_right (by omega), h, Nat.sub_self]; rfl
  · rw [if_neg (by omega), if_neg (by omega), List.getElem?_eq_none (by simp; omega)]; rfl
theorem After_snoc {l : List PS} {out : List Nat} {t j i : Nat} (h : j ≤ out.length) : After l (out ++ [t]) j i ↔ After l out j i := by
  unfold After
  rcases Nat.eq_zero_or_pos j with e | e
  · subst e; simp
  · rw [getD_snoc, if_pos (by omega)]
theorem Inv.pick {l : List PS} {t : Nat} {want : Int} {out : List Nat} (h : Inv l t want out) (ht : t < l.length) (h1 : (Lv l t : Int) = want) (h2 : After l out out.length t) : Inv l (t + 1) (want - 1) (out ++ [t]) := by
  have hp := Lv_pos l ht
  have hs := h.sum
  refine ⟨by rw [List.length_append, List.length_singleton]; omega, by omega, fun j hj => ?_, fun j hj => ?_, fun j hj => ?_, fun j hj i hi ha => ?_, fun i hi ha => ?_⟩
  · rw [getD_snoc]
    rw [List.length_append, List.length_singleton] at hj
    by_cases c : j < out.length
    · rw [if_pos c]; have := h.rng j c; omega
    · rw [if_neg c, if_pos (by omega)]; omega
  · rw [getD_snoc]
    rw [List.length_append, List.length_singleton] at hj
    by_cases c : j < out.length
    · rw [if_pos c]; exact h.lv j c
    · rw [if_neg c, if_pos (by omega)]; omega
  · rw [List.length_append, List.length_singleton] at hj
    rw [After_snoc (by omega), getD_snoc]
    by_cases c : j < out.length
    · rw [if_pos c]; exact h.inc j c
    · rw [if_neg c, if_pos (by omega), show j = out.length from by omega]; exact h2
  · rw [List.length_append, List.length_singleton] at hj
    rw [After_snoc (by omega)] at ha
    rw [getD_snoc] at hi
    by_cases c : j < out.length
    · rw [if_pos c] at hi; exact h.min j c i hi ha
    · rw [if_neg c, if_pos (by omega)] at hi
      obtain rfl : j = out.length := by omega
      have := h.pend i hi ha
      omega
  · rw [List.length_append, List.length_singleton] at ha
    rcases ha with ha | ⟨ha, _⟩
    · omega
    · rw [Nat.add_sub_cancel, getD_snoc, if_neg (by omega), if_pos rfl] at ha
      omega
theorem Inv.pass {l : List PS} {t : Nat} {want : Int} {out : List Nat} (h : Inv l t want out) (hn : ¬ ((Lv l t : Int) = want ∧ After l out out.length t)) : Inv l (t + 1) want out := by
  refine ⟨h.sum, h.wn, fun j hj => by have := h.rng j hj; omega, h.lv, h.inc, h.min, fun i hi ha => ?_⟩
  rcases Nat.lt_or_ge i t with c | c
  · exact h.pend i c ha
  · obtain rfl : i = t := by omega
    exact fun e => hn ⟨e, ha⟩
/-- What is chosen, as natural numbers. -/
theorem inv_at (l : List PS) : ∀ t, t ≤ l.length → ∃ out : List Nat, (stAt l t).2 = out.map (fun n : Nat => (n : Int)) ∧ Inv l t (stAt l t).1 out
  | 0, _ => ⟨[], rfl, by
      refine ⟨by simp [stAt, Mst], ?_, fun j hj => by simp at hj, fun j hj => by simp at hj, fun j hj => by simp at hj, fun j hj => by simp at hj, fun i hi => by omega⟩
      show 0 ≤ Mst l
      rcases Nat.eq_zero_or_pos l.length with e | e
      · obtain rfl := List.eq_nil_of_length_eq_zero e; decide
      · have := Mst_ge l e; omega⟩
  | t + 1, ht => by
    obtain ⟨out, e, hI⟩ := inv_at l t (by omega)
    rw [stAt_succ]
    generalize stAt l t = st at *
    obtain ⟨want, o⟩ := st
    simp only at e hI
    subst e
    unfold stepS
    simp only [List.length_map]
    have hA : (out.length = 0 ∨ (rd_T37 l (rd (out.map fun n : Nat => (n : Int)) ((out.length - 1 : Nat) : Int))).f0 < (rd_T37 l (t : Int)).f0) ↔ After l out out.length t := by
      unfold After
      rcases Nat.eq_zero_or_pos out.length with z | z
      · simp [z]
      · have e1 : rd (out.map fun n : Nat => (n : Int)) ((out.length - 1 : Nat) : Int) = ((out.getD (out.length - 1) 0 : Nat) : Int) := by
          unfold rd
          rw [show (((out.length - 1 : Nat) : Int)).toNat = out.length - 1 from rfl, List.getD_eq_getElem?_getD, List.getElem?_map, List.getD_eq_getElem?_getD, List.getElem?_eq_getElem (by omega)]; rfl
        rw [e1]
        have := hI.rng (out.length - 1) (by omega)
        constructor
        · rintro (h | h)
          · omega
          · exact .inr ⟨this, h⟩
        · rintro (h | h)
          · omega
          · exact .inr h.2
    rw [rd_lngI l (by omega)]
    by_cases c : (Lv l t : Int) = want ∧ After l out out.length t
    · rw [if_pos ⟨c.1, hA.2 c.2⟩]
      exact ⟨out ++ [t], by simp, hI.pick (by omega) c.1 c.2⟩
    · rw [if_neg (fun h => c ⟨h.1, hA.1 h.2⟩)]
      exact ⟨out, rfl, hI.pass c⟩
/-- At the end all is chosen that was wanted. -/
theorem Inv.done {l : List PS} {want : Int} {out : List Nat} (h : Inv l l.length want out) (hl : 0 < l.length) : want = 0 := by
  rcases Int.lt_or_le 0 want with hw | hw
  · exfalso
    have hs := h.sum
    rcases Nat.eq_zero_or_pos out.length with z | z
    · obtain ⟨i, hi, e⟩ := Mst_att l hl
      exact h.pend i hi (.inl z) (by omega)
    · have hr := h.rng (out.length - 1) (by omega)
      have hv := h.lv (out.length - 1) (by omega)
      obtain ⟨k, hk1, hk2, hk3, hk4⟩ := Lv_next l hr (by omega)
      exact h.pend k hk2 (.inr ⟨hk1, hk3⟩) (by omega)
  · have := h.wn; omega
/-- A choice of rising ones. -/
def Rises (l : List PS) (c : List Nat) : Prop := ∀ j, j < c.length → c.getD j 0 < l.length ∧ After l c j (c.getD j 0)
theorem Rises.lv {l : List PS} {c : List Nat} (h : Rises l c) : ∀ d j, j + d + 1 = c.length → d + 1 ≤ Lv l (c.getD j 0)
  | 0, j, hj => Lv_pos l (h j (by omega)).1
  | d + 1, j, hj => by
    have ih := h.lv d (j + 1) (by omega)
    have h2 := h (j + 1) (by omega)
    rcases h2.2 with h3 | ⟨h3, h4⟩
    · omega
    · have := Lv_up l h3 h2.1 h4
      simp only [Nat.add_sub_cancel] at this
      omega
theorem still_best (l : List PS) : ∃ out : List Nat, stillR l = out.map (fun n : Nat => (n : Int)) ∧ Rises l out ∧ ∀ c, Rises l c → c.length ≤ out.length ∧
    (c.length = out.length → ∀ j, j < out.length → (∀ j', j' < j → out.getD j' 0 = c.getD j' 0) → out.getD j 0 ≤ c.getD j 0) := by
  obtain ⟨out, e, hI⟩ := inv_at l l.length (Nat.le_refl _)
  refine ⟨out, e, fun j hj => ⟨hI.rng j hj, hI.inc j hj⟩, fun c hc => ?_⟩
  rcases Nat.eq_zero_or_pos l.length with z | z
  · have hc0 : c.length = 0 := by
      rcases Nat.eq_zero_or_pos c.length with y | y
      · exact y
      · have := (hc 0 y).1; omega
    refine ⟨by omega, fun h j hj => by omega⟩
  · have hw := hI.done z
    have hs := hI.sum
    have hle : c.length ≤ out.length := by
      rcases Nat.eq_zero_or_pos c.length with y | y
      · omega
      · have h1 := hc.lv (c.length - 1) 0 (by omega)
        have h2 := Mst_ge l (hc 0 y).1
        omega
    refine ⟨hle, fun hlen j hj heq => ?_⟩
    rcases Nat.lt_or_ge (c.getD j 0) (out.getD j 0) with hlt | hge
    · exfalso
      have hcj := hc j (by omega)
      have h1 := hc.lv (out.length - j - 1) j (by omega)
      have haft : After l out j (c.getD j 0) := by
        rcases hcj.2 with h | h
        · exact .inl h
        · rcases Nat.eq_zero_or_pos j with y | y
          · exact .inl y
          · right; rw [heq (j - 1) (by omega)]; exact h
      have h3 : (Lv l (c.getD j 0) : Int) ≤ Mst l - j := by
        rcases Nat.eq_zero_or_pos j with y | y
        · subst y; have := Mst_ge l hcj.1; omega
        · rcases haft with h | ⟨h4, h5⟩
          · omega
          · have h6 := Lv_up l h4 hcj.1 h5
            have h7 := hI.lv (j - 1) (by omega)
            omega
      exact hI.min j hj _ hlt haft (by omega)
    · exact hge
end Go.Proofs.Ytphmnjapjalfgaa.X
