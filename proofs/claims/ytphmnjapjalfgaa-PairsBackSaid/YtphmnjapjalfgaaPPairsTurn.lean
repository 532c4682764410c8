/- Pairs that are turned and pairs through pairs: what the laws without the reference say of them. -/
import Derived.Test.YtphmnjapjalfgaaPPairsOk
namespace Go.Proofs.Ytphmnjapjalfgaa.X
open Go.RowKit Go.Proofs.YtphmnjapjalfgaaW.PrintWords
set_option linter.unusedVariables false

theorem mem_putP {s : List PS} {p z : PS} : z ∈ putP s p ↔ z = p ∨ z ∈ s := by
  have e := List.takeWhile_append_dropWhile (p := fun q : PS => decide (q.f1 ≤ p.f1)) (l := s)
  unfold putP
  constructor
  · intro h
    rcases List.mem_append.1 h with h | h
    · right; rw [← e]; exact List.mem_append_left _ h
    · rcases List.mem_cons.1 h with h | h
      · exact .inl h
      · right; rw [← e]; exact List.mem_append_right _ h
  · rintro (rfl | h)
    · exact List.mem_append_right _ List.mem_cons_self
    · rw [← e] at h
      rcases List.mem_append.1 h with h | h
      · exact List.mem_append_left _ h
      · exact List.mem_append_right _ (List.mem_cons_of_mem _ h)
theorem perm_putP (s : List PS) (p : PS) : (putP s p).Perm (p :: s) := by
  have e := List.takeWhile_append_dropWhile (p := fun q : PS => decide (q.f1 ≤ p.f1)) (l := s)
  unfold putP
  refine List.perm_middle.trans ?_
  rw [e]
theorem perm_fold : ∀ (ps s : List PS), (ps.foldl putP s).Perm (ps ++ s)
  | [], s => List.Perm.refl _
  | p :: ps, s => by
    rw [List.foldl_cons]
    refine (perm_fold ps _).trans ?_
    refine ((perm_putP s p).append_left ps).trans ?_
    exact List.perm_middle
theorem perm_turn (l : List PS) : (turnR l).Perm (l.map swp) := by
  have := perm_fold (l.map swp) []
  rwa [List.append_nil] at this
theorem swp_swp (p : PS) : swp (swp p) = p := rfl
theorem mem_turn {l : List PS} {z : PS} : z ∈ turnR l ↔ swp z ∈ l := by
  rw [(perm_turn l).mem_iff]
  constructor
  · intro h
    obtain ⟨p, hp, rfl⟩ := List.mem_map.1 h
    exact hp
  · intro h
    exact List.mem_map.2 ⟨_, h, swp_swp z⟩
abbrev StrB (s : List PS) : Prop := s.Pairwise fun p q => p.f1 < q.f1
/-- Lists in strict order that have the same members are the same. -/
theorem str_unique : ∀ (a b : List PS), StrB a → StrB b → (∀ z, z ∈ a ↔ z ∈ b) → a = b
  | [], [], _, _, _ => rfl
  | [], q :: b, _, _, h => by have := (h q).2 List.mem_cons_self; cases this
  | p :: a, [], _, _, h => by have := (h p).1 List.mem_cons_self; cases this
  | p :: a, q :: b, ha, hb, h => by
    have ha' := List.pairwise_cons.1 ha
    have hb' := List.pairwise_cons.1 hb
    have hpq : p = q := by
      rcases List.mem_cons.1 ((h p).1 List.mem_cons_self) with e | h1
      · exact e
      · rcases List.mem_cons.1 ((h q).2 List.mem_cons_self) with e | h2
        · exact e.symm
        · have := hb'.1 _ h1; have := ha'.1 _ h2; omega
    subst hpq
    rw [str_unique a b ha'.2 hb'.2 fun z => ?_]
    constructor
    · intro hz
      rcases List.mem_cons.1 ((h z).1 (List.mem_cons_of_mem _ hz)) with e | h1
      · subst e; have := ha'.1 _ hz; omega
      · exact h1
    · intro hz
      rcases List.mem_cons.1 ((h z).2 (List.mem_cons_of_mem _ hz)) with e | h1
      · subst e; have := hb'.1 _ hz; omega
      · exact h1

/-- Pairs that may be. -/
structure May (l : List PS) (na nb : Int) : Prop where
  a0 : 0 ≤ na
  b0 : 0 ≤ nb
  all : ∀ p ∈ l, 0 ≤ p.f0 ∧ p.f0 < na ∧ 0 ≤ p.f1 ∧ p.f1 < nb
  nd0 : (l.map (·.f0)).Nodup
  nd1 : (l.map (·.f1)).Nodup
  str : StrB l
theorem str_of {l : List PS} (hs : SortB l) (hn : (l.map (·.f1)).Nodup) : StrB l := by
  refine List.pairwise_iff_getElem.2 fun i j hi hj hij => ?_
  have h1 := List.pairwise_iff_getElem.1 hs i j hi hj hij
  have h2 := List.pairwise_iff_getElem.1 hn i j (by simpa using hi) (by simpa using hj) hij
  simp only [List.getElem_map] at h2
  omega
theorem sort_adj {l : List PS} (h : ∀ i : Nat, i + 1 < l.length → (rd_T37 l (i : Int)).f1 ≤ (rd_T37 l ((i + 1 : Nat) : Int)).f1) : SortB l := by
  refine List.pairwise_iff_getElem.2 fun i j hi hj hij => ?_
  have aux : ∀ d, (hd : i + d < l.length) → l[i].f1 ≤ (l[i + d]).f1 := by
    intro d
    induction d with
    | zero => intro _; exact Int.le_refl _
    | succ d ih =>
      intro hd
      have h1 := ih (by omega)
      have h2 := h (i + d) (by omega)
      rw [rdP_get (by omega), rdP_get (by omega)] at h2
      exact Int.le_trans h1 h2
  have := aux (j - i) (by omega)
  simp only [show i + (j - i) = j from by omega] at this
  exact this
theorem may_iff {l : List PS} {na nb : Int} : checkR l na nb = 0 ↔ May l na nb := by
  constructor
  · intro h
    unfold checkR at h
    split at h
    · cases h
    · split at h
      · cases h
      · split at h
        · cases h
        · split at h
          · rename_i h0 h1 h2 h3
            have h2' := Decidable.not_not.1 h2
            have h1' : l.all (inP na nb) = true := by simpa using h1
            refine ⟨by omega, by omega, fun p hp => ?_, h2'.1, h2'.2, str_of (sort_adj fun i hi => ?_) h2'.2⟩
            · have := List.all_eq_true.1 h1' p hp
              unfold inP at this
              exact of_decide_eq_true this
            · exact of_decide_eq_true (List.all_eq_true.1 h3 i (List.mem_range.2 (by omega)))
          · cases h
  · intro h
    refine chk0 (by have := h.a0; have := h.b0; omega) (List.all_eq_true.2 fun p hp => decide_eq_true (h.all p hp)) ⟨h.nd0, h.nd1⟩ fun i hi => ?_
    rw [rdP_get (by omega), rdP_get hi]
    have := List.pairwise_iff_getElem.1 h.str i (i + 1) (by omega) hi (Nat.lt_succ_self i)
    omega
theorem sort_turn (l : List PS) : SortB (turnR l) := sort_fold _ _ List.Pairwise.nil
theorem turn_f0 (l : List PS) : ((turnR l).map (·.f0)).Perm (l.map (·.f1)) := by
  have := (perm_turn l).map (·.f0)
  rwa [List.map_map] at this
theorem turn_f1 (l : List PS) : ((turnR l).map (·.f1)).Perm (l.map (·.f0)) := by
  have := (perm_turn l).map (·.f1)
  rwa [List.map_map] at this
theorem May.turn {l : List PS} {na nb : Int} (h : May l na nb) : May (turnR l) nb na := by
  have n1 : ((turnR l).map (·.f1)).Nodup := (turn_f1 l).symm.nodup h.nd0
  refine ⟨h.b0, h.a0, fun p hp => ?_, (turn_f0 l).symm.nodup h.nd1, n1, str_of (sort_turn l) n1⟩
  have := h.all _ (mem_turn.1 hp)
  unfold swp at this
  simp only at this
  omega
theorem May.back {l : List PS} {na nb : Int} (h : May l na nb) : turnR (turnR l) = l :=
  str_unique _ _ h.turn.turn.str h.str fun z => by rw [mem_turn, mem_turn, swp_swp]
theorem ok_turn {l : List PS} (h : okP l = true) : okP (turnR l) = true := by
  have h1 := okP_len h
  have h2 := okP_mem h
  unfold okP
  simp only [Bool.and_eq_true, decide_eq_true_eq, List.all_eq_true]
  refine ⟨by rw [turnR_len]; exact h1, fun p hp => ?_⟩
  have := h2 _ (mem_turn.1 hp)
  exact ⟨this.2, this.1⟩

/-- Those in no pair. -/
theorem restR_congr (xs ys : List Int) : ∀ n : Nat, (∀ i : Nat, i < n → xs.count (i : Int) = ys.count (i : Int)) → restR xs n = restR ys n
  | 0, _ => rfl
  | n + 1, h => by rw [restR_succ, restR_succ, restR_congr xs ys n (fun i hi => h i (by omega)), h n (by omega)]
theorem restR_len : ∀ (n : Nat) (xs : List Int), xs.Nodup → (∀ x ∈ xs, 0 ≤ x ∧ x < (n : Int)) → (restR xs n).length + xs.length = n
  | 0, xs, _, h => by
    cases xs with
    | nil => rfl
    | cons x t => have := h x List.mem_cons_self; omega
  | n + 1, xs, hn, h => by
    rw [restR_succ]
    by_cases c : xs.count (n : Int) = 0
    · rw [if_pos c]
      have c' := List.count_eq_zero.1 c
      have := restR_len n xs hn (fun x hx => by
        have h1 := h x hx
        have h2 : x ≠ (n : Int) := fun e => c' (e ▸ hx)
        omega)
      rw [List.length_append, List.length_singleton]; omega
    · rw [if_neg c, List.append_nil]
      have hm : (n : Int) ∈ xs := by rw [← List.count_pos_iff]; omega
      have h3 := restR_len n (xs.erase (n : Int)) (hn.erase _) (fun x hx => by
        have h1 := h x (List.mem_of_mem_erase hx)
        have h2 : x ≠ (n : Int) := fun e => by
          subst e
          exact (List.Nodup.mem_erase_iff hn).1 hx |>.1 rfl
        omega)
      have h4 := restR_congr xs (xs.erase (n : Int)) n (fun i hi => (List.count_erase_of_ne (by omega)).symm)
      rw [List.length_erase_of_mem hm] at h3
      have h5 := List.length_pos_of_mem hm
      rw [h4]; omega

/-- Pairs through pairs. -/
theorem mem_thrAt {x : List PS} {q z : PS} (hx : (x.map (·.f1)).Nodup) : z ∈ thrAt x q ↔ ∃ p ∈ x, p.f1 = q.f0 ∧ z = ⟨p.f0, q.f1⟩ := by
  unfold thrAt
  cases hf : x.find? (fun p => p.f1 == q.f0) with
  | none =>
    have h := List.find?_eq_none.1 hf
    simp only [List.not_mem_nil, false_iff]
    rintro ⟨p, hp, e, _⟩
    exact h p hp (by simpa using e)
  | some p =>
    have h1 := List.find?_some hf
    have h2 := List.mem_of_find?_eq_some hf
    simp only [beq_iff_eq] at h1
    simp only [List.mem_singleton]
    constructor
    · rintro rfl; exact ⟨p, h2, h1, rfl⟩
    · rintro ⟨p', hp', e, rfl⟩
      have : p' = p := by
        obtain ⟨i, hi, rfl⟩ := List.getElem_of_mem hp'
        obtain ⟨j, hj, rfl⟩ := List.getElem_of_mem h2
        have e2 : x[i].f1 = x[j].f1 := by rw [e, h1]
        rcases Nat.lt_trichotomy i j with h | h | h
        · exact absurd (by rw [List.getElem_map, List.getElem_map]; exact e2) (List.pairwise_iff_getElem.1 hx i j (by simpa using hi) (by simpa using hj) h)
        · subst h; rfl
        · exact absurd (by rw [List.getElem_map, List.getElem_map]; exact e2.symm) (List.pairwise_iff_getElem.1 hx j i (by simpa using hj) (by simpa using hi) h)
      rw [this]
theorem mem_thr {x y : List PS} {z : PS} (hx : (x.map (·.f1)).Nodup) : z ∈ thr x y ↔ ∃ q ∈ y, ∃ p ∈ x, p.f1 = q.f0 ∧ z = ⟨p.f0, q.f1⟩ := by
  unfold thr
  rw [List.mem_flatMap]
  constructor
  · rintro ⟨q, hq, h⟩; exact ⟨q, hq, (mem_thrAt hx).1 h⟩
  · rintro ⟨q, hq, h⟩; exact ⟨q, hq, (mem_thrAt hx).2 h⟩
theorem thrAt_f1 (x : List PS) (q : PS) : ((thrAt x q).map (·.f1)).Sublist [q.f1] := by
  unfold thrAt; split <;> simp
theorem thr_f1 (x : List PS) : ∀ y : List PS, ((thr x y).map (·.f1)).Sublist (y.map (·.f1))
  | [] => by simp [thr]
  | q :: y => by
    rw [thr_cons, List.map_append, List.map_cons]
    exact (thrAt_f1 x q).append (thr_f1 x y)
theorem nd_inj {x : List PS} (h : (x.map (·.f0)).Nodup) {p q : PS} (hp : p ∈ x) (hq : q ∈ x) (e : p.f0 = q.f0) : p = q := by
  obtain ⟨i, hi, rfl⟩ := List.getElem_of_mem hp
  obtain ⟨j, hj, rfl⟩ := List.getElem_of_mem hq
  rcases Nat.lt_trichotomy i j with h' | h' | h'
  · exact absurd (by rw [List.getElem_map, List.getElem_map]; exact e) (List.pairwise_iff_getElem.1 h i j (by simpa using hi) (by simpa using hj) h')
  · subst h'; rfl
  · exact absurd (by rw [List.getElem_map, List.getElem_map]; exact e.symm) (List.pairwise_iff_getElem.1 h j i (by simpa using hj) (by simpa using hi) h')
theorem thr_nd0 {x : List PS} (h0 : (x.map (·.f0)).Nodup) (h1 : (x.map (·.f1)).Nodup) : ∀ y : List PS, (y.map (·.f0)).Nodup → ((thr x y).map (·.f0)).Nodup
  | [], _ => by simp [thr]
  | q :: y, hy => by
    have hy' := List.nodup_cons.1 (by rw [List.map_cons] at hy; exact hy)
    have ih := thr_nd0 h0 h1 y hy'.2
    rw [thr_cons, List.map_append]
    refine List.nodup_append.2 ⟨?_, ih, fun a ha b hb e => ?_⟩
    · unfold thrAt; split <;> simp
    · subst e
      obtain ⟨z, hz, rfl⟩ := List.mem_map.1 ha
      obtain ⟨z', hz', e⟩ := List.mem_map.1 hb
      obtain ⟨p, hp, hpq, rfl⟩ := (mem_thrAt h1).1 hz
      obtain ⟨q', hq', p', hp', hpq', rfl⟩ := (mem_thr h1).1 hz'
      have : p' = p := nd_inj h0 hp' hp e
      subst this
      exact hy'.1 (List.mem_map.2 ⟨q', hq', by rw [← hpq', hpq]⟩)
theorem str_iff {l : List PS} : StrB l ↔ (l.map (·.f1)).Pairwise (· < ·) := by rw [List.pairwise_map]
theorem May.thr {x y : List PS} {na nb nc : Int} (hx : May x na nb) (hy : May y nb nc) : May (thr x y) na nc := by
  refine ⟨hx.a0, hy.b0, fun z hz => ?_, thr_nd0 hx.nd0 hx.nd1 y hy.nd0, hy.nd1.sublist (thr_f1 x y), str_iff.2 ((str_iff.1 hy.str).sublist (thr_f1 x y))⟩
  obtain ⟨q, hq, p, hp, e, rfl⟩ := (mem_thr hx.nd1).1 hz
  have := hx.all p hp
  have := hy.all q hq
  show 0 ≤ p.f0 ∧ p.f0 < na ∧ 0 ≤ q.f1 ∧ q.f1 < nc
  omega
theorem May.thr_turn {x y : List PS} {na nb nc : Int} (hx : May x na nb) (hy : May y nb nc) : turnR (X.thr x y) = X.thr (turnR y) (turnR x) := by
  refine str_unique _ _ (hx.thr hy).turn.str (hy.turn.thr hx.turn).str fun z => ?_
  rw [mem_turn, mem_thr hx.nd1, mem_thr hy.turn.nd1]
  constructor
  · rintro ⟨q, hq, p, hp, e, ez⟩
    refine ⟨swp p, mem_turn.2 hp, swp q, mem_turn.2 hq, e.symm, ?_⟩
    cases z; unfold swp at *; simp at ez; simp [ez]
  · rintro ⟨q, hq, p, hp, e, ez⟩
    refine ⟨swp p, mem_turn.1 hp, swp q, mem_turn.1 hq, e.symm, ?_⟩
    subst ez; rfl
end Go.Proofs.Ytphmnjapjalfgaa.X
