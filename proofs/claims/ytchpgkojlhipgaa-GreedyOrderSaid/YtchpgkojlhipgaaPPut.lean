/- Pairs put in order by their Bs (as in seat pw's texts). -/
import Derived.Test.YtchpgkojlhipgaaX3
import Derived.Test.YtchpgkojlhipgaaX6
namespace Go.Proofs.Ytchpgkojlhipgaa.X
open Go.RowKit Go.Proofs.YtchpgkojlhipgaaW.PrintWords
set_option linter.unusedVariables false

abbrev PS := S32
theorem rdP_mem {l : List PS} {t : Nat} (h : t < l.length) : rd_T32 l (t : Int) ∈ l := by
  unfold rd_T32
  rw [show (t : Int).toNat = t from rfl, List.getD_eq_getElem?_getD, List.getElem?_eq_getElem h]
  exact List.getElem_mem h
theorem take_rdP {l : List PS} {t : Nat} (h : t < l.length) : l.take (t + 1) = l.take t ++ [rd_T32 l (t : Int)] := by
  unfold rd_T32
  rw [show (t : Int).toNat = t from rfl, List.getD_eq_getElem?_getD, List.getElem?_eq_getElem h, List.take_succ_eq_append_getElem h]; rfl

/-- One more, by B, behind those of the same B. -/
def putP (s : List PS) (p : PS) : List PS := s.takeWhile (fun q => decide (q.f1 ≤ p.f1)) ++ p :: s.dropWhile (fun q => decide (q.f1 ≤ p.f1))
def SortB (s : List PS) : Prop := s.Pairwise fun p q => p.f1 ≤ q.f1
theorem putP_len (s : List PS) (p : PS) : (putP s p).length = s.length + 1 := by
  unfold putP
  have := congrArg List.length (List.takeWhile_append_dropWhile (p := fun q : PS => decide (q.f1 ≤ p.f1)) (l := s))
  rw [List.length_append] at this
  rw [List.length_append, List.length_cons]; omega
theorem foldl_put_len : ∀ (ps s : List PS), (ps.foldl putP s).length = s.length + ps.length
  | [], _ => rfl
  | p :: ps, s => by rw [List.foldl_cons, foldl_put_len ps, putP_len, List.length_cons]; omega
/-- Where the inner loop stops, it is put in. -/
theorem put_at (s : List PS) (p : PS) (hs : SortB s) (k : Nat) (hk : k ≤ s.length) (hhi : ∀ q ∈ s.drop k, p.f1 < q.f1) (hlo : k = 0 ∨ (rd_T32 s ((k - 1 : Nat) : Int)).f1 ≤ p.f1) : putP s p = s.take k ++ p :: s.drop k := by
  have hall : ∀ q ∈ s.take k, q.f1 ≤ p.f1 := by
    intro q hq
    rcases hlo with h0 | h0
    · subst h0; simp at hq
    · obtain ⟨j, hj, rfl⟩ := List.getElem_of_mem hq
      rw [List.length_take] at hj
      rw [List.getElem_take]
      have hk1 : k - 1 < s.length := by omega
      have e : rd_T32 s ((k - 1 : Nat) : Int) = s[k - 1] := by
        unfold rd_T32
        rw [show (((k - 1 : Nat) : Int)).toNat = k - 1 from rfl, List.getD_eq_getElem?_getD, List.getElem?_eq_getElem hk1]; rfl
      rw [e] at h0
      rcases Nat.lt_or_ge j (k - 1) with h1 | h1
      · have := List.pairwise_iff_getElem.1 hs j (k - 1) (by omega) hk1 h1
        omega
      · have : j = k - 1 := by omega
        subst this; exact h0
  have gen : ∀ (A D : List PS), (∀ q ∈ A, q.f1 ≤ p.f1) → (∀ q ∈ D, p.f1 < q.f1) → (A ++ D).takeWhile (fun q => decide (q.f1 ≤ p.f1)) = A ∧ (A ++ D).dropWhile (fun q => decide (q.f1 ≤ p.f1)) = D := by
    intro A D hA hD
    rw [List.takeWhile_append_of_pos (by intro q hq; exact decide_eq_true (hA q hq)), List.dropWhile_append_of_pos (by intro q hq; exact decide_eq_true (hA q hq))]
    cases D with
    | nil => simp
    | cons q t =>
      have := hD q List.mem_cons_self
      have hf : decide (q.f1 ≤ p.f1) = false := decide_eq_false (by omega)
      rw [List.takeWhile_cons, List.dropWhile_cons, hf]; simp
  have h1 := gen _ _ hall hhi
  rw [List.take_append_drop] at h1
  unfold putP
  rw [h1.1, h1.2]
theorem sort_put (s : List PS) (p : PS) (hs : SortB s) : SortB (putP s p) := by
  unfold putP SortB
  have e := List.takeWhile_append_dropWhile (p := fun q : PS => decide (q.f1 ≤ p.f1)) (l := s)
  have hlo : ∀ q ∈ s.takeWhile (fun q => decide (q.f1 ≤ p.f1)), q.f1 ≤ p.f1 := fun q hq => by simpa using List.all_eq_true.1 List.all_takeWhile q hq
  have hs' := hs
  unfold SortB at hs'
  rw [← e, List.pairwise_append] at hs'
  have hhi : ∀ q ∈ s.dropWhile (fun q => decide (q.f1 ≤ p.f1)), p.f1 ≤ q.f1 := by
    cases hd : s.dropWhile (fun q => decide (q.f1 ≤ p.f1)) with
    | nil => simp
    | cons q t =>
      have hq : ¬ q.f1 ≤ p.f1 := by
        have := List.head_dropWhile_not (fun q : PS => decide (q.f1 ≤ p.f1)) (l := s) (by rw [hd]; simp)
        simpa [hd] using this
      intro q' hq'
      have h2 := hs'.2.1
      rw [hd, List.pairwise_cons] at h2
      rcases List.mem_cons.1 hq' with rfl | h
      · omega
      · have := h2.1 q' h; omega
  rw [List.pairwise_append]
  refine ⟨hs'.1, ?_, fun a ha b hb => ?_⟩
  · rw [List.pairwise_cons]; exact ⟨hhi, hs'.2.1⟩
  · rcases List.mem_cons.1 hb with rfl | h
    · exact hlo a ha
    · exact hs'.2.2 a ha b h
theorem sort_fold : ∀ (ps s : List PS), SortB s → SortB (ps.foldl putP s)
  | [], _, h => h
  | p :: ps, s, h => sort_fold ps _ (sort_put s p h)

theorem wrap_in {n : Int} (h0 : -1000000000000 ≤ n) (h1 : n ≤ 1000000000000) : wrap64 n = n := by unfold wrap64; omega
theorem wrap_up (i : Nat) (h : i ≤ 1000000000) : wrap64 ((i : Int) + 1) = ((i + 1 : Nat) : Int) := by rw [wrap_in (by omega) (by omega)]; omega
theorem dropP {l : List PS} {t : Nat} (h : t < l.length) : l.drop t = rd_T32 l (t : Int) :: l.drop (t + 1) := by
  unfold rd_T32
  rw [List.drop_eq_getElem_cons h, show ((t : Int)).toNat = t from rfl, List.getD_eq_getElem?_getD, List.getElem?_eq_getElem h]; rfl
theorem dropI {l : List Int} {t : Nat} (h : t < l.length) : l.drop t = rd l (t : Int) :: l.drop (t + 1) := by
  unfold rd
  rw [List.drop_eq_getElem_cons h, show ((t : Int)).toNat = t from rfl, List.getD_eq_getElem?_getD, List.getElem?_eq_getElem h]; rfl

def eqP (p q : PS) : Bool := p.f0 == q.f0 && p.f1 == q.f1
theorem eqP_iff {p q : PS} : eqP p q = true ↔ p = q := by
  cases p; cases q; simp [eqP]
def sameB : List PS → List PS → Bool
  | [], [] => true
  | p :: a, q :: b => eqP p q && sameB a b
  | _, _ => false
theorem sameB_iff : ∀ {a b : List PS}, sameB a b = true ↔ a = b
  | [], [] => by simp [sameB]
  | [], _ :: _ => by simp [sameB]
  | _ :: _, [] => by simp [sameB]
  | p :: a, q :: b => by simp [sameB, eqP_iff, sameB_iff]
theorem sameB_refl (a : List PS) : sameB a a = true := sameB_iff.2 rfl
theorem refSame_l0 (a b : List PS) (hab : a.length = b.length) (ha : a.length ≤ 100000) : ∀ (d k i : Nat), i + d = a.length → d < k → tartanref06_Same.l0 k a b (i : Nat) = some (sameB (a.drop i) (b.drop i)) := by
  intro d
  induction d with
  | zero =>
    intro k i hi hk
    obtain ⟨k, rfl⟩ : ∃ m, k = m + 1 := ⟨k - 1, by omega⟩
    simp only [tartanref06_Same.l0]
    rw [if_neg (by omega), List.drop_eq_nil_of_le (by omega), List.drop_eq_nil_of_le (by omega)]; rfl
  | succ d ih =>
    intro k i hi hk
    obtain ⟨k, rfl⟩ : ∃ m, k = m + 1 := ⟨k - 1, by omega⟩
    have ih' := ih k (i + 1) (by omega) (by omega)
    simp only [tartanref06_Same.l0]
    rw [if_pos (by omega), if_pos (by omega), if_pos (by omega), wrap_up _ (by omega), ih', dropP (l := a) (t := i) (by omega), dropP (l := b) (t := i) (by omega)]
    show _ = some (eqP _ _ && sameB _ _)
    unfold eqP
    cases (rd_T32 a (i : Int)).f0 == (rd_T32 b (i : Int)).f0 <;> cases (rd_T32 a (i : Int)).f1 == (rd_T32 b (i : Int)).f1 <;> simp
theorem sameB_len {a b : List PS} (h : ¬ a.length = b.length) : sameB a b = false := by
  rw [Bool.eq_false_iff]; intro h2; exact h (by rw [sameB_iff.1 h2])
theorem refSame_some {a b : List PS} (ha : a.length ≤ 100000) {k : Nat} (hk : a.length < k) : tartanref06_Same.f k a b = some (sameB a b) := by
  unfold tartanref06_Same.f
  by_cases e : a.length = b.length
  · rw [if_pos (by omega)]
    exact refSame_l0 a b e ha a.length k 0 (by omega) hk
  · rw [if_neg (by omega), sameB_len e]
/-- Pairs that are turned. -/
theorem refPut_l0 (s : List PS) (a b : Int) (hs : SortB s) (hl : s.length ≤ 100000) : ∀ (d k i kk : Nat), i + d = s.length → d < k → kk ≤ i → (∀ q ∈ (s.take i).drop kk, b < q.f1) → (kk = 0 ∨ (rd_T32 s ((kk - 1 : Nat) : Int)).f1 ≤ b) →
    tartanref06_Put.l0 k s (kk : Nat) (i : Nat) a b = some (putP s ⟨a, b⟩) := by
  intro d
  induction d with
  | zero =>
    intro k i kk hi hk hkk hhi hlo
    obtain ⟨k, rfl⟩ : ∃ m, k = m + 1 := ⟨k - 1, by omega⟩
    rw [List.take_of_length_le (by omega)] at hhi
    have hp := put_at s ⟨a, b⟩ hs kk (by omega) hhi hlo
    simp only [tartanref06_Put.l0]
    rw [if_neg (by omega), Option.bind_some, if_pos (by omega), if_pos (by omega), Option.bind_some, show ((kk : Int)).toNat = kk from rfl, if_pos (by rw [List.length_take]; simp; omega), Option.bind_some,
      if_pos (by simp; omega), Option.bind_some, Option.bind_some, if_pos (by simp; omega), hp]
    simp
  | succ d ih =>
    intro k i kk hi hk hkk hhi hlo
    obtain ⟨k, rfl⟩ : ∃ m, k = m + 1 := ⟨k - 1, by omega⟩
    simp only [tartanref06_Put.l0]
    rw [if_pos (by omega), if_pos (by omega), wrap_up _ (by omega)]
    by_cases c : (rd_T32 s (i : Int)).f1 ≤ b
    · rw [if_pos c]
      refine ih k (i + 1) (i + 1) (by omega) (by omega) (Nat.le_refl _) ?_ (.inr c)
      rw [List.drop_eq_nil_of_le (by rw [List.length_take]; omega)]
      intro q hq; cases hq
    · rw [if_neg c]
      refine ih k (i + 1) kk (by omega) (by omega) (by omega) ?_ hlo
      rw [take_rdP (by omega), List.drop_append_of_le_length (by rw [List.length_take]; omega)]
      intro q hq
      rcases List.mem_append.1 hq with h | h
      · exact hhi q h
      · simp only [List.mem_singleton] at h
        subst h; omega
theorem refPut_some {s : List PS} {a b : Int} (hs : SortB s) (hl : s.length ≤ 100000) {k : Nat} (hk : s.length < k) : tartanref06_Put.f k s a b = some (putP s ⟨a, b⟩) := by
  unfold tartanref06_Put.f
  exact refPut_l0 s a b hs hl s.length k 0 0 (by omega) hk (Nat.le_refl _) (fun q hq => by simp at hq) (.inl rfl)
/-- Whether they may be pairs. -/
theorem rdP_get {l : List PS} {i : Nat} (h : i < l.length) : rd_T32 l (i : Int) = l[i] := by
  unfold rd_T32
  rw [show ((i : Int)).toNat = i from rfl, List.getD_eq_getElem?_getD, List.getElem?_eq_getElem h]; rfl
theorem mem_putP {s : List PS} {p z : PS} : z ∈ putP s p ↔ z = p ∨ z ∈ s := by
  have e := List.takeWhile_append_dropWhile (p := fun q : PS => decide (q.f1 ≤ p.f1)) (l := s)
  unfold putP
  constructor
  · intro h
    rcases List.mem_append.1 h with h | h
    · right; rw [← e]; exact List.mem_append_left _ h
    · rcases List.mem_cons.1 h with h | h
      · exact .inl h
      · right; rw [← e]; exact List.mem_append_right _ h
  · rintro (rfl | h)
    · exact List.mem_append_right _ List.mem_cons_self
    · rw [← e] at h
      rcases List.mem_append.1 h with h | h
      · exact List.mem_append_left _ h
      · exact List.mem_append_right _ (List.mem_cons_of_mem _ h)
theorem perm_putP (s : List PS) (p : PS) : (putP s p).Perm (p :: s) := by
  have e := List.takeWhile_append_dropWhile (p := fun q : PS => decide (q.f1 ≤ p.f1)) (l := s)
  unfold putP
  refine List.perm_middle.trans ?_
  rw [e]
theorem perm_fold : ∀ (ps s : List PS), (ps.foldl putP s).Perm (ps ++ s)
  | [], s => List.Perm.refl _
  | p :: ps, s => by
    rw [List.foldl_cons]
    refine (perm_fold ps _).trans ?_
    refine ((perm_putP s p).append_left ps).trans ?_
    exact List.perm_middle
abbrev StrB (s : List PS) : Prop := s.Pairwise fun p q => p.f1 < q.f1
/-- Lists in strict order that have the same members are the same. -/
theorem str_unique : ∀ (a b : List PS), StrB a → StrB b → (∀ z, z ∈ a ↔ z ∈ b) → a = b
  | [], [], _, _, _ => rfl
  | [], q :: b, _, _, h => by have := (h q).2 List.mem_cons_self; cases this
  | p :: a, [], _, _, h => by have := (h p).1 List.mem_cons_self; cases this
  | p :: a, q :: b, ha, hb, h => by
    have ha' := List.pairwise_cons.1 ha
    have hb' := List.pairwise_cons.1 hb
    have hpq : p = q := by
      rcases List.mem_cons.1 ((h p).1 List.mem_cons_self) with e | h1
      · exact e
      · rcases List.mem_cons.1 ((h q).2 List.mem_cons_self) with e | h2
        · exact e.symm
        · have := hb'.1 _ h1; have := ha'.1 _ h2; omega
    subst hpq
    rw [str_unique a b ha'.2 hb'.2 fun z => ?_]
    constructor
    · intro hz
      rcases List.mem_cons.1 ((h z).1 (List.mem_cons_of_mem _ hz)) with e | h1
      · subst e; have := ha'.1 _ hz; omega
      · exact h1
    · intro hz
      rcases List.mem_cons.1 ((h z).2 (List.mem_cons_of_mem _ hz)) with e | h1
      · subst e; have := hb'.1 _ hz; omega
      · exact h1

theorem str_of {l : List PS} (hs : SortB l) (hn : (l.map (·.f1)).Nodup) : StrB l := by
  refine List.pairwise_iff_getElem.2 fun i j hi hj hij => ?_
  have h1 := List.pairwise_iff_getElem.1 hs i j hi hj hij
  have h2 := List.pairwise_iff_getElem.1 hn i j (by simpa using hi) (by simpa using hj) hij
  simp only [List.getElem_map] at h2
  omega
theorem mem_fold {l : List PS} {z : PS} : z ∈ l.foldl putP [] ↔ z ∈ l := by
  have := (perm_fold l []).mem_iff (a := z)
  rwa [List.append_nil] at this
/-- Any order by the Bs, where no B stands twice, is this one. -/
theorem fold_unique {l d : List PS} (hp : d.Perm l) (hs : SortB d) (hn : (l.map (·.f1)).Nodup) : d = l.foldl putP [] := by
  have hd : (d.map (·.f1)).Nodup := (hp.map (·.f1)).symm.nodup hn
  have hf : ((l.foldl putP []).map (·.f1)).Nodup := by
    have := (perm_fold l []).map (·.f1)
    rw [List.append_nil] at this
    exact this.symm.nodup hn
  exact str_unique _ _ (str_of hs hd) (str_of (sort_fold _ _ List.Pairwise.nil) hf) fun z => by rw [mem_fold]; exact hp.mem_iff
end Go.Proofs.Ytchpgkojlhipgaa.X
