/- Two orders in one: the document's answer, and what the woven one holds. Plain. -/
import Derived.Test.YthdfgkbfjpadbaaX8
import Derived.Test.YthdfgkbfjpadbaaX4
import Derived.Test.YthdfgkbfjpadbaaGMerge
namespace Go.Proofs.Ythdfgkbfjpadbaa.X
open Go.RowKit Go.Proofs.YthdfgkbfjpadbaaW.PrintWords
set_option linter.unusedVariables false
set_option maxRecDepth 100000 in
theorem works21 : ∀ k, tartanlaw21_works.f (k + 60) = some true := by intro k; kernel_rfl
theorem few21 (a b : List Int) : tartanlaw21_few.f a b = some (decide (a.length ≤ 40) && decide (b.length ≤ 40)) := by
  unfold tartanlaw21_few.f
  by_cases h : a.length ≤ 40
  · rw [if_pos (by omega), decide_eq_true h, Bool.true_and]
    congr 1
    exact decide_eq_decide.2 (by omega)
  · rw [if_neg (by omega), decide_eq_false h, Bool.false_and]
theorem in_l0 (l : List Int) (x : Int) (hl : l.length ≤ 100000) : ∀ (d k i : Nat), i + d = l.length → d < k → tartanref06_In.l0 k l x (i : Nat) = some (decide (x ∈ l.drop i)) := by
  intro d
  induction d with
  | zero =>
    intro k i hi hk
    obtain ⟨k, rfl⟩ : ∃ m, k = m + 1 := ⟨k - 1, by omega⟩
    simp only [tartanref06_In.l0]
    rw [if_neg (by omega), List.drop_eq_nil_of_le (by omega)]; rfl
  | succ d ih =>
    intro k i hi hk
    obtain ⟨k, rfl⟩ : ∃ m, k = m + 1 := ⟨k - 1, by omega⟩
    simp only [tartanref06_In.l0]
    rw [if_pos (by omega), if_pos (by omega), wrap_upI _ (by omega), List.drop_eq_getElem_cons (by omega), rd_at (by omega)]
    by_cases e : l[i] = x
    · rw [if_pos e]
      congr 1
      exact (decide_eq_true (by rw [e]; exact List.mem_cons_self)).symm
    · rw [if_neg e, ih k (i + 1) (by omega) (by omega)]
      congr 1
      exact decide_eq_decide.2 (by rw [List.mem_cons]; exact ⟨.inr, fun h => h.resolve_left (fun h => e h.symm)⟩)
theorem in_some (l : List Int) (x : Int) (hl : l.length ≤ 100000) {k : Nat} (hk : l.length < k) : tartanref06_In.f k l x = some (decide (x ∈ l)) := by
  have := in_l0 l x hl l.length k 0 (by omega) (by omega)
  rw [List.drop_zero] at this
  exact this
theorem ints_l0 (a b : List Int) (hl : a.length = b.length) (hm : a.length ≤ 100000) : ∀ (d k i : Nat), i + d = a.length → d < k → tartanref06_Ints.l0 k a b (i : Nat) = some (decide (a.drop i = b.drop i)) := by
  intro d
  induction d with
  | zero =>
    intro k i hi hk
    obtain ⟨k, rfl⟩ : ∃ m, k = m + 1 := ⟨k - 1, by omega⟩
    simp only [tartanref06_Ints.l0]
    rw [if_neg (by omega), List.drop_eq_nil_of_le (by omega), List.drop_eq_nil_of_le (by omega)]; rfl
  | succ d ih =>
    intro k i hi hk
    obtain ⟨k, rfl⟩ : ∃ m, k = m + 1 := ⟨k - 1, by omega⟩
    simp only [tartanref06_Ints.l0]
    rw [if_pos (by omega), if_pos (by omega), if_pos (by omega), wrap_upI _ (by omega), List.drop_eq_getElem_cons (show i < a.length by omega), List.drop_eq_getElem_cons (show i < b.length by omega), rd_at (by omega), rd_at (by omega)]
    by_cases e : a[i] = b[i]
    · rw [if_pos e, ih k (i + 1) (by omega) (by omega)]
      congr 1
      exact decide_eq_decide.2 ⟨fun h => by rw [e, h], fun h => (List.cons.inj h).2⟩
    · rw [if_neg e]
      congr 1
      exact (decide_eq_false (fun h => e (List.cons.inj h).1)).symm
theorem ints_some (a b : List Int) (hm : a.length ≤ 100000) {k : Nat} (hk : a.length < k) : tartanref06_Ints.f k a b = some (decide (a = b)) := by
  unfold tartanref06_Ints.f
  by_cases h : a.length = b.length
  · rw [if_pos (by omega)]
    have := ints_l0 a b h hm a.length k 0 (by omega) (by omega)
    rw [List.drop_zero, List.drop_zero] at this
    exact this
  · rw [if_neg (by omega)]
    congr 1
    exact (decide_eq_false (fun e => h (by rw [e]))).symm
theorem refOnce_l0 (l : List Int) (hl : l.length ≤ 1000) : ∀ (d k i : Nat) (o : List Int), i + d = l.length → d + 2000 < k → o.length ≤ i → tartanref21_Once.l0 k l o (i : Nat) = some ((l.drop i).foldl onceS o) := by
  intro d
  induction d with
  | zero =>
    intro k i o hi hk ho
    obtain ⟨k, rfl⟩ : ∃ m, k = m + 1 := ⟨k - 1, by omega⟩
    simp only [tartanref21_Once.l0]
    rw [if_neg (by omega), List.drop_eq_nil_of_le (by omega)]; rfl
  | succ d ih =>
    intro k i o hi hk ho
    obtain ⟨k, rfl⟩ : ∃ m, k = m + 1 := ⟨k - 1, by omega⟩
    simp only [tartanref21_Once.l0]
    rw [if_pos (by omega), if_pos (by omega), in_some _ _ (by omega) (by omega), Option.bind_some, wrap_upI _ (by omega), List.drop_eq_getElem_cons (by omega), rd_at (by omega), List.foldl_cons]
    by_cases h : l[i] ∈ o
    · rw [decide_eq_true h, if_pos rfl]
      have e : onceS o l[i] = o := if_pos h
      rw [e]
      exact ih k (i + 1) o (by omega) (by omega) (by omega)
    · rw [decide_eq_false h, if_neg (by decide), if_pos (by omega)]
      have e : onceS o l[i] = o ++ [l[i]] := if_neg h
      rw [e]
      exact ih k (i + 1) _ (by omega) (by omega) (by simp; omega)
theorem refOnce_some (l : List Int) (hl : l.length ≤ 1000) {k : Nat} (hk : 4000 ≤ k) : tartanref21_Once.f k l = some (onceR l) := by
  have := refOnce_l0 l hl l.length k 0 [] (by omega) (by omega) (by simp)
  rw [List.drop_zero] at this
  exact this
/-- A number put right behind each that is alike. -/
def behR (l : List Int) (n a : Int) : List Int := l.flatMap fun y => if y = a then [y, n] else [y]
theorem behR_cons (y : Int) (l : List Int) (n a : Int) : behR (y :: l) n a = (if y = a then [y, n] else [y]) ++ behR l n a := rfl
theorem behR_not {n a : Int} : ∀ {l : List Int}, a ∉ l → behR l n a = l
  | [], _ => rfl
  | y :: r, h => by
    rw [behR_cons, if_neg (fun e => h (by rw [e]; exact List.mem_cons_self)), behR_not (fun h1 => h (List.mem_cons_of_mem _ h1))]; rfl
theorem behR_ins {n a : Int} : ∀ {l : List Int}, l.Nodup → behR l n a = insB l a n
  | [], _ => rfl
  | y :: r, h => by
    obtain ⟨h1, h2⟩ := List.nodup_cons.1 h
    rw [behR_cons]
    unfold insB
    by_cases e : y = a
    · subst e
      rw [if_pos rfl, if_pos rfl, behR_not h1]; rfl
    · rw [if_neg e, if_neg e, behR_ins h2]; rfl
theorem behind_l0 (l : List Int) (n a : Int) (hl : l.length ≤ 1000) : ∀ (d k i : Nat) (o : List Int), i + d = l.length → d < k → o.length ≤ 2 * i → tartanref21_behind.l0 k l n a o (i : Nat) = some (o ++ behR (l.drop i) n a) := by
  intro d
  induction d with
  | zero =>
    intro k i o hi hk ho
    obtain ⟨k, rfl⟩ : ∃ m, k = m + 1 := ⟨k - 1, by omega⟩
    simp only [tartanref21_behind.l0]
    rw [if_neg (by omega), List.drop_eq_nil_of_le (by omega)]
    simp [behR]
  | succ d ih =>
    intro k i o hi hk ho
    obtain ⟨k, rfl⟩ : ∃ m, k = m + 1 := ⟨k - 1, by omega⟩
    simp only [tartanref21_behind.l0]
    rw [if_pos (by omega), if_pos (by omega), if_pos (by omega), Option.bind_some, wrap_upI _ (by omega), List.drop_eq_getElem_cons (by omega), rd_at (by omega), behR_cons]
    by_cases e : l[i] = a
    · rw [if_pos e, if_pos e, if_pos (by simp; omega), ih k (i + 1) _ (by omega) (by omega) (by simp; omega)]
      simp
    · rw [if_neg e, if_neg e, ih k (i + 1) _ (by omega) (by omega) (by simp; omega)]
      simp
theorem behind_some (l : List Int) (n a : Int) (hl : l.length ≤ 1000) {k : Nat} (hk : l.length < k) : tartanref21_behind.f k l n a = some (behR l n a) := by
  have := behind_l0 l n a hl l.length k 0 [] (by omega) (by omega) (by simp)
  rw [List.drop_zero] at this
  exact this
theorem onceS_nodup {o : List Int} {n : Int} (h : o.Nodup) : (onceS o n).Nodup := by
  unfold onceS
  split
  · exact h
  · rename_i hn
    rw [List.nodup_append]
    exact ⟨h, by simp, fun a ha b hb => by rw [List.mem_singleton.1 hb]; exact fun e => hn (e ▸ ha)⟩
theorem fold_nodup : ∀ (l o : List Int), o.Nodup → (l.foldl onceS o).Nodup
  | [], o, h => h
  | n :: r, o, h => fold_nodup r _ (onceS_nodup h)
theorem onceR_nodup (l : List Int) : (onceR l).Nodup := fold_nodup l [] (by simp)
theorem fold_id : ∀ (l o : List Int), (o ++ l).Nodup → l.foldl onceS o = o ++ l
  | [], o, h => by simp
  | n :: r, o, h => by
    have hn : n ∉ o := fun hn => by
      rw [List.nodup_append] at h
      exact h.2.2 n hn n List.mem_cons_self rfl
    rw [List.foldl_cons, show onceS o n = o ++ [n] from if_neg hn, fold_id r (o ++ [n]) (by simpa using h)]
    simp
theorem onceR_id {l : List Int} (h : l.Nodup) : onceR l = l := by
  have := fold_id l [] (by simpa using h)
  simpa [onceR] using this
theorem insB_iff {L : List Int} {a x y : Int} (h : a ∈ L) : y ∈ insB L a x ↔ y = x ∨ y ∈ L := by
  obtain ⟨A, B, h1, h2⟩ := insB_eq x h
  rw [h2]
  conv => rhs; rw [h1]
  simp only [List.mem_append, List.mem_cons]
  constructor
  · rintro (h | h | h | h) <;> simp [h]
  · rintro (h | h | h | h) <;> simp [h]
theorem insB_nodup {L : List Int} {a x : Int} (h : a ∈ L) (hx : x ∉ L) (hn : L.Nodup) : (insB L a x).Nodup := by
  obtain ⟨A, B, h1, h2⟩ := insB_eq x h
  rw [h2]
  have hp : (A ++ a :: x :: B).Perm (x :: L) := by
    rw [h1]
    exact ((List.Perm.refl A).append (List.Perm.swap x a B)).trans List.perm_middle
  exact hp.nodup_iff.2 (List.nodup_cons.2 ⟨hx, hn⟩)
/-- What one list's numbers leave of a chain. -/
structure Wv (l L : List Int) (i : Nat) : Prop where
  nd : (wvK l L i).Nodup
  mem : ∀ y, y ∈ wvK l L i ↔ y ∈ L ∨ y ∈ l.take i
  old : ∀ p : Int → Bool, (∀ y, y ∈ l.take i → y ∉ L → p y = false) → (wvK l L i).filter p = L.filter p
theorem wv_ok (l L : List Int) (hL : L.Nodup) : ∀ i, i ≤ l.length → Wv l L i := by
  intro i
  induction i with
  | zero => intro _; exact ⟨hL, fun y => by simp [wvK], fun p _ => rfl⟩
  | succ i ih =>
    intro hi
    have h := ih (by omega)
    have hlt : i < l.length := by omega
    have hg : l.getD i 0 = l[i] := by rw [List.getD_eq_getElem?_getD, List.getElem?_eq_getElem hlt]; rfl
    have ht : ∀ y, y ∈ l.take (i + 1) ↔ y ∈ l.take i ∨ y = l.getD i 0 := fun y => by
      rw [hg, List.take_add_one, List.getElem?_eq_getElem hlt, List.mem_append]
      simp
    have hpre : wvK l L i = [] ∨ decide (i = 0) = true ∨ l.getD (i - 1) 0 ∈ wvK l L i := (wvK_ok l L i (by omega)).2.2.2
    rw [show Wv l L (i + 1) ↔ Wv l L (i + 1) from Iff.rfl]
    by_cases hm : l.getD i 0 ∈ wvK l L i
    · have e : wvK l L (i + 1) = wvK l L i := by show (if _ then _ else _) = _; rw [if_pos hm]
      refine ⟨by rw [e]; exact h.nd, fun y => ?_, fun p hp => ?_⟩
      · rw [e, h.mem, ht]
        constructor
        · rintro (h1 | h1)
          · exact .inl h1
          · exact .inr (.inl h1)
        · rintro (h1 | h1 | rfl)
          · exact .inl h1
          · exact .inr h1
          · exact (h.mem _).1 hm
      · rw [e]; exact h.old p (fun y h1 h2 => hp y ((ht y).2 (.inl h1)) h2)
    · have e : wvK l L (i + 1) = putL (wvK l L i) (l.getD i 0) (l.getD (i - 1) 0) (decide (i = 0)) := by show (if _ then _ else _) = _; rw [if_neg hm]
      have hxL : l.getD i 0 ∉ L := fun h1 => hm ((h.mem _).2 (.inl h1))
      have hmem : ∀ y, y ∈ wvK l L (i + 1) ↔ y = l.getD i 0 ∨ y ∈ wvK l L i := by
        intro y
        rw [e]
        unfold putL
        by_cases h0 : wvK l L i = []
        · rw [if_pos h0, h0]; simp
        · rw [if_neg h0]
          by_cases hf : decide (i = 0) = true
          · rw [if_pos hf]; simp
          · rw [if_neg hf]; exact insB_iff ((hpre.resolve_left h0).resolve_left hf)
      refine ⟨?_, fun y => ?_, fun p hp => ?_⟩
      · rw [e]
        unfold putL
        by_cases h0 : wvK l L i = []
        · rw [if_pos h0]; simp
        · rw [if_neg h0]
          by_cases hf : decide (i = 0) = true
          · rw [if_pos hf]; exact List.nodup_cons.2 ⟨hm, h.nd⟩
          · rw [if_neg hf]; exact insB_nodup ((hpre.resolve_left h0).resolve_left hf) hm h.nd
      · rw [hmem, h.mem, ht]
        constructor
        · rintro (h1 | h1 | h1)
          · exact .inr (.inr h1)
          · exact .inl h1
          · exact .inr (.inl h1)
        · rintro (h1 | h1 | h1)
          · exact .inr (.inl h1)
          · exact .inr (.inr h1)
          · exact .inl h1
      · have hpx : p (l.getD i 0) = false := hp _ ((ht _).2 (.inr rfl)) hxL
        rw [← h.old p (fun y h1 h2 => hp y ((ht y).2 (.inl h1)) h2), e]
        unfold putL
        by_cases h0 : wvK l L i = []
        · rw [if_pos h0, h0, List.filter_cons, hpx]; simp
        · rw [if_neg h0]
          by_cases hf : decide (i = 0) = true
          · rw [if_pos hf, List.filter_cons, hpx]; simp
          · rw [if_neg hf]
            obtain ⟨A, B, h1, h2⟩ := insB_eq (l.getD i 0) ((hpre.resolve_left h0).resolve_left hf)
            rw [h2]
            conv => rhs; rw [h1]
            simp only [List.filter_append, List.filter_cons, hpx]
            simp
theorem wv_all {l L : List Int} (h : ∀ y ∈ l, y ∈ L) : ∀ i, i ≤ l.length → wvK l L i = L := by
  intro i
  induction i with
  | zero => intro _; rfl
  | succ i ih =>
    intro hi
    have hlt : i < l.length := by omega
    show (if _ then _ else _) = _
    rw [ih (by omega), if_pos]
    rw [List.getD_eq_getElem?_getD, List.getElem?_eq_getElem hlt]
    exact h _ (List.getElem_mem hlt)
theorem insB_last : ∀ (A : List Int) (a x : Int), a ∉ A → insB (A ++ [a]) a x = A ++ [a, x]
  | [], a, x, _ => by simp [insB]
  | y :: r, a, x, h => by
    show (if y = a then _ else y :: insB (r ++ [a]) a x) = _
    rw [if_neg (fun e => h (by rw [e]; exact List.mem_cons_self)), insB_last r a x (fun h1 => h (List.mem_cons_of_mem _ h1))]; rfl
theorem wv_nil {l : List Int} (hn : l.Nodup) : ∀ i, i ≤ l.length → wvK l [] i = l.take i := by
  intro i
  induction i with
  | zero => intro _; simp [wvK]
  | succ i ih =>
    intro hi
    have hlt : i < l.length := by omega
    have hg : l.getD i 0 = l[i] := by rw [List.getD_eq_getElem?_getD, List.getElem?_eq_getElem hlt]; rfl
    have hnt : l[i] ∉ l.take i := fun h => by
      obtain ⟨j, hj, e⟩ := List.mem_take_iff_getElem.1 h
      have := (List.getElem_inj hn).1 e
      omega
    have e : wvK l [] (i + 1) = putL (wvK l [] i) (l.getD i 0) (l.getD (i - 1) 0) (decide (i = 0)) := by show (if _ then _ else _) = _; rw [if_neg (by rw [ih (by omega), hg]; exact hnt)]
    rw [e, ih (by omega), hg]
    unfold putL
    rcases Nat.eq_zero_or_pos i with h0 | h0
    · subst h0
      rw [if_pos (by simp), List.take_one]
      cases l with
      | nil => simp at hlt
      | cons a r => rfl
    · have hl1 : i - 1 < l.length := by omega
      have hg1 : l.getD (i - 1) 0 = l[i - 1] := by rw [List.getD_eq_getElem?_getD, List.getElem?_eq_getElem hl1]; rfl
      have htk : l.take i = l.take (i - 1) ++ [l[i - 1]] := by
        have := List.take_add_one (l := l) (i := i - 1)
        rw [show i - 1 + 1 = i by omega, List.getElem?_eq_getElem hl1] at this
        exact this
      have hnt1 : l[i - 1] ∉ l.take (i - 1) := fun h => by
        obtain ⟨j, hj, e⟩ := List.mem_take_iff_getElem.1 h
        have := (List.getElem_inj hn).1 e
        omega
      rw [if_neg (by rw [htk]; exact List.append_ne_nil_of_right_ne_nil _ (List.cons_ne_nil _ _)), if_neg (by simp; omega), hg1]
      rw [List.take_add_one, List.getElem?_eq_getElem hlt, htk, insB_last _ _ _ hnt1, List.append_assoc]
      rfl
theorem weaveR_eq (a b : List Int) : weaveR a b = wvK (onceR b) (onceR a) (onceR b).length := by
  unfold weaveR
  rw [wv_nil (onceR_nodup a) _ (Nat.le_refl _), List.take_length]
theorem weaveR_ok (a b : List Int) : (weaveR a b).Nodup ∧ (∀ y, y ∈ weaveR a b ↔ y ∈ a ∨ y ∈ b) ∧ (weaveR a b).length ≤ a.length + b.length := by
  have h := wv_ok (onceR b) (onceR a) (onceR_nodup a) _ (Nat.le_refl _)
  have h2 := (wvK_ok (onceR b) (onceR a) _ (Nat.le_refl _)).2.2.1
  have h3 := onceR_len a
  have h4 := onceR_len b
  rw [weaveR_eq]
  exact ⟨h.nd, fun y => by rw [h.mem, List.take_length, onceR_mem, onceR_mem], by omega⟩
theorem weaveR_keeps (a b : List Int) : (weaveR a b).filter (fun y => decide (y ∈ a)) = onceR a := by
  have h := (wv_ok (onceR b) (onceR a) (onceR_nodup a) _ (Nat.le_refl _)).old (fun y => decide (y ∈ a)) (fun y _ h2 => decide_eq_false (fun h3 => h2 (onceR_mem.2 h3)))
  rw [weaveR_eq, h]
  exact List.filter_eq_self.2 (fun y hy => decide_eq_true (onceR_mem.1 hy))
theorem weaveR_all {a b : List Int} (h : ∀ y ∈ b, y ∈ a) : weaveR a b = onceR a := by
  rw [weaveR_eq]
  exact wv_all (fun y hy => onceR_mem.2 (h y (onceR_mem.1 hy))) _ (Nat.le_refl _)
theorem weave_len {l L : List Int} {i : Nat} (h : i ≤ l.length) : (wvK l L i).length ≤ L.length + i := (wvK_ok l L i h).2.2.1
theorem refWeave_l0 (l L : List Int) (hL : L.Nodup) (hl : l.length ≤ 400) (hLl : L.length ≤ 400) : ∀ (d k i : Nat), i + d = l.length → d + 4000 < k → tartanref21_Weave.l0 k (wvK l L i) l (i : Nat) = some (wvK l L l.length) := by
  intro d
  induction d with
  | zero =>
    intro k i hi hk
    obtain ⟨k, rfl⟩ : ∃ m, k = m + 1 := ⟨k - 1, by omega⟩
    simp only [tartanref21_Weave.l0]
    rw [if_neg (by omega), show i = l.length by omega]
  | succ d ih =>
    intro k i hi hk
    obtain ⟨k, rfl⟩ : ∃ m, k = m + 1 := ⟨k - 1, by omega⟩
    have hlen := weave_len (L := L) (show i ≤ l.length by omega)
    have hlt : i < l.length := by omega
    have hg : l.getD i 0 = l[i] := by rw [List.getD_eq_getElem?_getD, List.getElem?_eq_getElem hlt]; rfl
    have hI := ih k (i + 1) (by omega) (by omega)
    simp only [tartanref21_Weave.l0]
    rw [if_pos (by omega), if_pos (by omega), in_some _ _ (by omega) (by omega), Option.bind_some, wrap_upI _ (by omega), rd_at hlt]
    by_cases hm : l[i] ∈ wvK l L i
    · rw [decide_eq_true hm, if_pos rfl]
      have e : wvK l L (i + 1) = wvK l L i := by show (if _ then _ else _) = _; rw [if_pos (by rw [hg]; exact hm)]
      rw [e] at hI
      exact hI
    · have e : wvK l L (i + 1) = putL (wvK l L i) (l.getD i 0) (l.getD (i - 1) 0) (decide (i = 0)) := by show (if _ then _ else _) = _; rw [if_neg (by rw [hg]; exact hm)]
      rw [decide_eq_false hm, if_neg (by decide)]
      rcases Nat.eq_zero_or_pos i with h0 | h0
      · subst h0
        rw [if_pos (by rfl), Option.bind_some, if_pos (by simp; omega)]
        have e2 : wvK l L (0 + 1) = [l[0]] ++ wvK l L 0 := by
          rw [e, hg]
          unfold putL
          by_cases hz : wvK l L 0 = []
          · rw [if_pos hz, hz]; rfl
          · rw [if_neg hz, if_pos (by rfl)]; rfl
        rw [e2] at hI
        exact hI
      · have hpre : l.getD (i - 1) 0 ∈ wvK l L i := by
          have := (wvK_ok l L i (by omega)).2.1 (i - 1) (by omega)
          exact this
        have hl1 : i - 1 < l.length := by omega
        have hw : wrap64 ((i : Int) - 1) = ((i - 1 : Nat) : Int) := by unfold wrap64; omega
        rw [if_neg (by omega), hw, if_pos (by omega), if_pos (by omega), rd_at hl1, behind_some _ _ _ (by omega) (by omega), Option.bind_some]
        have hg1 : l.getD (i - 1) 0 = l[i - 1] := by rw [List.getD_eq_getElem?_getD, List.getElem?_eq_getElem hl1]; rfl
        have e2 : wvK l L (i + 1) = behR (wvK l L i) l[i] l[i - 1] := by
          rw [e, hg, hg1, behR_ins (wv_ok l L hL i (by omega)).nd]
          unfold putL
          rw [if_neg (fun hz => by rw [hz] at hpre; cases hpre), if_neg (by simp; omega)]
        rw [e2] at hI
        exact hI
theorem refWeave_some (a b : List Int) (ha : a.length ≤ 400) (hb : b.length ≤ 400) {k : Nat} (hk : 8000 ≤ k) : tartanref21_Weave.f k a b = some (weaveR a b) := by
  have h3 := onceR_len a
  have h4 := onceR_len b
  unfold tartanref21_Weave.f
  rw [refOnce_some a (by omega) (by omega), Option.bind_some, refOnce_some b (by omega) (by omega), Option.bind_some, weaveR_eq]
  exact refWeave_l0 (onceR b) (onceR a) (onceR_nodup a) (by omega) (by omega) (onceR b).length k 0 (by omega) (by omega)
theorem keptR_cons (x : Int) (l out : List Int) : keptR (x :: l) out = if x ∈ out then keptR l out else x :: keptR l out := by
  unfold keptR
  rw [List.filter_cons]
  by_cases h : x ∈ out
  · rw [decide_eq_true h, if_pos h]; rfl
  · rw [decide_eq_false h, if_neg h]; rfl
theorem refMerge_l0 (out w : List Int) (ho : out.length ≤ 1000) (hw : w.length ≤ 1000) : ∀ (d k i : Nat) (o : List Int), i + d = w.length → d + 2000 < k → o.length ≤ i → tartanref21_Merge.l0 k out w o (i : Nat) = some (o ++ keptR (w.drop i) out) := by
  intro d
  induction d with
  | zero =>
    intro k i o hi hk hoi
    obtain ⟨k, rfl⟩ : ∃ m, k = m + 1 := ⟨k - 1, by omega⟩
    simp only [tartanref21_Merge.l0]
    rw [if_neg (by omega), List.drop_eq_nil_of_le (by omega)]
    simp [keptR]
  | succ d ih =>
    intro k i o hi hk hoi
    obtain ⟨k, rfl⟩ : ∃ m, k = m + 1 := ⟨k - 1, by omega⟩
    simp only [tartanref21_Merge.l0]
    rw [if_pos (by omega), if_pos (by omega), in_some _ _ (by omega) (by omega), Option.bind_some, wrap_upI _ (by omega), List.drop_eq_getElem_cons (by omega), rd_at (by omega)]
    by_cases h : w[i] ∈ out
    · rw [decide_eq_true h, if_pos rfl, ih k (i + 1) o (by omega) (by omega) (by omega), keptR_cons, if_pos h]
    · rw [decide_eq_false h, if_neg (by decide), if_pos (by omega), ih k (i + 1) _ (by omega) (by omega) (by simp; omega), keptR_cons, if_neg h, List.append_assoc]; rfl
theorem refMerge_some (o a b out : List Int) (h0 : o.length ≤ 400) (h1 : a.length ≤ 400) (h2 : b.length ≤ 400) (h3 : out.length ≤ 1000) {k : Nat} (hk : 10000 ≤ k) : tartanref21_Merge.f k o a b out = some (mergeR o a b out) := by
  have l1 := onceR_len a
  have w1 := (weaveR_ok a b).2.2
  have w2 := (weaveR_ok b a).2.2
  obtain ⟨m, rfl⟩ : ∃ m, k = m + 1 := ⟨k - 1, by omega⟩
  unfold tartanref21_Merge.f
  rw [refWeave_some a b h1 h2 (by omega), Option.bind_some, refOnce_some a (by omega) (by omega), Option.bind_some, refOnce_some o (by omega) (by omega), Option.bind_some, ints_some _ _ (by omega) (by omega), Option.bind_some]
  unfold mergeR
  by_cases h : onceR a = onceR o
  · rw [decide_eq_true h, if_pos rfl, if_pos h, refWeave_some b a h2 h1 (by omega), Option.bind_some]
    simp only [tartanref21_Merge.j0]
    exact refMerge_l0 out _ h3 (by omega) (weaveR b a).length m 0 [] (by omega) (by omega) (by simp)
  · rw [decide_eq_false h, if_neg (by decide), if_neg h]
    simp only [tartanref21_Merge.j0]
    exact refMerge_l0 out _ h3 (by omega) (weaveR a b).length m 0 [] (by omega) (by omega) (by simp)
theorem merge_some {o a b out : List Int} (h0 : o.length ≤ 400) (h1 : a.length ≤ 400) (h2 : b.length ≤ 400) (h3 : out.length ≤ 1000) (w1 : wfL a = true) (w2 : wfL b = true) : order_Merge.f o a b out = some (mergeR o a b out) := if_pos ⟨⟨h0, h1, h2, h3⟩, w1, w2⟩
theorem wfL_of {l : List Int} (h : ∀ x ∈ l, (Lit.int .i64 x).wf = true) : wfL l = true := by
  unfold wfL; rw [List.all_eq_true]; exact h
end Go.Proofs.Ythdfgkbfjpadbaa.X
