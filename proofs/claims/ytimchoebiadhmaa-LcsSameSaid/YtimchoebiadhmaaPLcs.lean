/- The longest common row, as plain lists: order, turns, what is put in front and behind; the pairs. No program here. -/
import Derived.Test.YtimchoebiadhmaaGLcs2
namespace Go.Proofs.Ytimchoebiadhmaa.X
open Go.Proofs.YtimchoebiadhmaaW.PrintWords

theorem lcsL_reach : ∀ (a b : List ByteArray), ∃ s : List ByteArray, s.Sublist a ∧ s.Sublist b ∧ s.length = lcsL a b := by
  intro a
  induction a with
  | nil => intro b; exact ⟨[], List.Sublist.refl _, List.nil_sublist _, rfl⟩
  | cons x a iha =>
    intro b
    induction b with
    | nil => exact ⟨[], List.nil_sublist _, List.nil_sublist _, rfl⟩
    | cons y b ihb =>
      rw [lcsL_cons]
      by_cases e : x = y
      · rw [if_pos e]
        obtain ⟨s, h1, h2, h3⟩ := iha b
        subst e
        exact ⟨x :: s, h1.cons_cons _, h2.cons_cons _, by rw [List.length_cons, h3]⟩
      · rw [if_neg e]
        rcases Nat.le_total (lcsL a (y :: b)) (lcsL (x :: a) b) with hm | hm
        · obtain ⟨s, h1, h2, h3⟩ := ihb
          exact ⟨s, h1, h2.cons _, by rw [h3]; omega⟩
        · obtain ⟨s, h1, h2, h3⟩ := iha (y :: b)
          exact ⟨s, h1.cons _, h2, by rw [h3]; omega⟩
theorem lcsL_top : ∀ (a b s : List ByteArray), s.Sublist a → s.Sublist b → s.length ≤ lcsL a b := by
  intro a
  induction a with
  | nil => intro b s h1 _; rw [List.sublist_nil.1 h1]; exact Nat.zero_le _
  | cons x a iha =>
    intro b
    induction b with
    | nil => intro s _ h2; rw [List.sublist_nil.1 h2]; exact Nat.zero_le _
    | cons y b ihb =>
      intro s h1 h2
      rw [lcsL_cons]
      cases s with
      | nil => exact Nat.zero_le _
      | cons z s =>
        by_cases e : x = y
        · rw [if_pos e]
          have := iha b s (by simpa using h1.tail) (by simpa using h2.tail)
          simp; omega
        · rw [if_neg e]
          cases h1 with
          | cons _ h1 => have := iha (y :: b) (z :: s) h1 h2; omega
          | cons_cons _ h1 =>
            cases h2 with
            | cons _ h2 => have := ihb (x :: s) (h1.cons_cons x) h2; omega
            | cons_cons _ h2 => exact absurd rfl e
theorem lcsL_le_of (a b c d : List ByteArray) (h : ∀ s : List ByteArray, s.Sublist a → s.Sublist b → ∃ t : List ByteArray, t.Sublist c ∧ t.Sublist d ∧ t.length = s.length) : lcsL a b ≤ lcsL c d := by
  obtain ⟨s, h1, h2, h3⟩ := lcsL_reach a b
  obtain ⟨t, h4, h5, h6⟩ := h s h1 h2
  have := lcsL_top c d t h4 h5
  omega
theorem lcsL_symm (a b : List ByteArray) : lcsL a b = lcsL b a :=
  Nat.le_antisymm (lcsL_le_of _ _ _ _ fun s h1 h2 => ⟨s, h2, h1, rfl⟩) (lcsL_le_of _ _ _ _ fun s h1 h2 => ⟨s, h2, h1, rfl⟩)
theorem lcsL_mono {a b c d : List ByteArray} (h1 : a.Sublist c) (h2 : b.Sublist d) : lcsL a b ≤ lcsL c d := lcsL_le_of _ _ _ _ fun s k1 k2 => ⟨s, k1.trans h1, k2.trans h2, rfl⟩
theorem lcsL_leR (a b : List ByteArray) : lcsL a b ≤ b.length := by rw [lcsL_symm]; exact lcsL_le b a
theorem lcsL_reverse (a b : List ByteArray) : lcsL a.reverse b.reverse = lcsL a b := by
  have h : ∀ a b : List ByteArray, lcsL a b ≤ lcsL a.reverse b.reverse := fun a b => lcsL_le_of _ _ _ _ fun s h1 h2 => ⟨s.reverse, h1.reverse, h2.reverse, List.length_reverse⟩
  refine Nat.le_antisymm ?_ (h a b)
  have := h a.reverse b.reverse
  rwa [List.reverse_reverse, List.reverse_reverse] at this
theorem lcsL_front : ∀ (c a b : List ByteArray), lcsL (c ++ a) (c ++ b) = lcsL a b + c.length
  | [], _, _ => rfl
  | x :: c, a, b => by rw [List.cons_append, List.cons_append, lcsL_cons, if_pos rfl, lcsL_front c a b, List.length_cons]; omega
theorem lcsL_behind (c a b : List ByteArray) : lcsL (a ++ c) (b ++ c) = lcsL a b + c.length := by
  rw [← lcsL_reverse, List.reverse_append, List.reverse_append, lcsL_front, lcsL_reverse, List.length_reverse]
theorem lcsL_sub {a b : List ByteArray} (h : b.Sublist a) : lcsL a b = b.length := Nat.le_antisymm (lcsL_leR a b) (lcsL_top a b b h (List.Sublist.refl _))

/-- A row of pairs that both lists have in common, from (i, k) on. -/
def Good (a b : List ByteArray) : Nat → Nat → List (Nat × Nat) → Prop
  | _, _, [] => True
  | i, k, p :: ps => i ≤ p.1 ∧ k ≤ p.2 ∧ p.1 < a.length ∧ p.2 < b.length ∧ rdOf ByteArray.empty a (p.1 : Int) = rdOf ByteArray.empty b (p.2 : Int) ∧ Good a b (p.1 + 1) (p.2 + 1) ps
theorem Good.weaken {a b : List ByteArray} {i k i' k' : Nat} (hi : i' ≤ i) (hk : k' ≤ k) : ∀ {ps : List (Nat × Nat)}, Good a b i k ps → Good a b i' k' ps
  | [], _ => trivial
  | _ :: _, h => ⟨Nat.le_trans hi h.1, Nat.le_trans hk h.2.1, h.2.2⟩

theorem lcsP_good (a b : List ByteArray) : ∀ (n i k : Nat), a.length - i + (b.length - k) ≤ n → Good a b i k (lcsP (a.drop i) i (b.drop k) k) ∧ (lcsP (a.drop i) i (b.drop k) k).length = lcsL (a.drop i) (b.drop k) := by
  intro n
  induction n with
  | zero =>
    intro i k h
    rw [List.drop_eq_nil_of_le (show a.length ≤ i by omega)]
    exact ⟨trivial, rfl⟩
  | succ n ih =>
    intro i k h
    by_cases hi : i < a.length
    · by_cases hk : k < b.length
      · by_cases e : rdOf ByteArray.empty a (i : Int) = rdOf ByteArray.empty b (k : Int)
        · have h1 := ih (i + 1) (k + 1) (by omega)
          rw [drop_rd hi, drop_rd hk, lcsP_cons, if_pos e, lcsL_cons, if_pos e]
          exact ⟨⟨Nat.le_refl _, Nat.le_refl _, hi, hk, e, h1.1⟩, by rw [List.length_cons, h1.2]⟩
        · have h1 := ih (i + 1) k (by omega)
          have h2 := ih i (k + 1) (by omega)
          by_cases hc : lcsL (a.drop i) (b.drop (k + 1)) ≤ lcsL (a.drop (i + 1)) (b.drop k)
          · have hc' := hc
            rw [drop_rd hi, drop_rd hk] at hc'
            rw [drop_rd hi, drop_rd hk, lcsP_cons, if_neg e, if_pos hc', lcsL_cons, if_neg e, ← drop_rd hk, ← drop_rd hi]
            exact ⟨h1.1.weaken (by omega) (by omega), by rw [h1.2]; omega⟩
          · have hc' := hc
            rw [drop_rd hi, drop_rd hk] at hc'
            rw [drop_rd hi, drop_rd hk, lcsP_cons, if_neg e, if_neg hc', lcsL_cons, if_neg e, ← drop_rd hk, ← drop_rd hi]
            exact ⟨h2.1.weaken (by omega) (by omega), by rw [h2.2]; omega⟩
      · rw [show b.drop k = [] from List.drop_eq_nil_of_le (by omega), lcsP_nil, lcsL_nil]
        exact ⟨trivial, rfl⟩
    · rw [List.drop_eq_nil_of_le (show a.length ≤ i by omega)]
      exact ⟨trivial, rfl⟩
theorem Good.le {a b : List ByteArray} : ∀ {ps : List (Nat × Nat)} {i k : Nat}, Good a b i k ps → ps.length ≤ lcsL (a.drop i) (b.drop k)
  | [], _, _, _ => Nat.zero_le _
  | p :: ps, i, k, ⟨h1, h2, h3, h4, h5, h6⟩ => by
    have h7 := Good.le h6
    have h8 : lcsL (a.drop p.1) (b.drop p.2) = lcsL (a.drop (p.1 + 1)) (b.drop (p.2 + 1)) + 1 := by rw [drop_rd h3, drop_rd h4, lcsL_cons, if_pos h5]
    have h9 : lcsL (a.drop p.1) (b.drop p.2) ≤ lcsL (a.drop i) (b.drop k) := lcsL_mono (List.drop_sublist_drop_left a h1) (List.drop_sublist_drop_left b h2)
    simp; omega
/-- Pair by pair. -/
theorem Good.at {a b : List ByteArray} : ∀ {ps : List (Nat × Nat)} {i k : Nat}, Good a b i k ps → ∀ t p, ps[t]? = some p → i ≤ p.1 ∧ k ≤ p.2 ∧ p.1 < a.length ∧ p.2 < b.length ∧ rdOf ByteArray.empty a (p.1 : Int) = rdOf ByteArray.empty b (p.2 : Int) ∧
      (∀ u q, t = u + 1 → ps[u]? = some q → q.1 < p.1 ∧ q.2 < p.2)
  | [], _, _, _, t, p, h => by simp at h
  | q :: ps, i, k, ⟨h1, h2, h3, h4, h5, h6⟩, 0, p, h => by
    simp at h; subst h
    exact ⟨h1, h2, h3, h4, h5, fun u q e => by omega⟩
  | q :: ps, i, k, ⟨h1, h2, h3, h4, h5, h6⟩, t + 1, p, h => by
    have hp : ps[t]? = some p := by simpa using h
    obtain ⟨g1, g2, g3, g4, g5, g6⟩ := Good.at h6 t p hp
    refine ⟨by omega, by omega, g3, g4, g5, fun u q' e hq => ?_⟩
    cases u with
    | zero => simp at hq; subst hq; omega
    | succ u => exact g6 u q' (by omega) (by simpa using hq)
theorem Good.of_at {a b : List ByteArray} : ∀ {ps : List (Nat × Nat)} {i k : Nat}, (∀ t p, ps[t]? = some p → p.1 < a.length ∧ p.2 < b.length ∧ rdOf ByteArray.empty a (p.1 : Int) = rdOf ByteArray.empty b (p.2 : Int) ∧
      (∀ u q, t = u + 1 → ps[u]? = some q → q.1 < p.1 ∧ q.2 < p.2)) → (∀ p, ps[0]? = some p → i ≤ p.1 ∧ k ≤ p.2) → Good a b i k ps
  | [], _, _, _, _ => trivial
  | q :: ps, i, k, h, h0 => by
    obtain ⟨g1, g2, g3, _⟩ := h 0 q rfl
    obtain ⟨e1, e2⟩ := h0 q rfl
    refine ⟨e1, e2, g1, g2, g3, Good.of_at (fun t p hp => ?_) (fun p hp => ?_)⟩
    · obtain ⟨f1, f2, f3, f4⟩ := h (t + 1) p (by simpa using hp)
      exact ⟨f1, f2, f3, fun u q' e hq => f4 (u + 1) q' (by omega) (by simpa using hq)⟩
    · obtain ⟨_, _, _, f4⟩ := h 1 p (by simpa using hp)
      obtain ⟨j1, j2⟩ := f4 0 q rfl rfl
      exact ⟨j1, j2⟩
theorem lcsP_self : ∀ (a : List ByteArray) (i : Nat), lcsP a i a i = (List.range' i a.length).map fun t => (t, t)
  | [], _ => rfl
  | x :: a, i => by rw [lcsP_cons, if_pos rfl, lcsP_self a (i + 1), List.length_cons, List.range'_succ]; rfl
end Go.Proofs.Ytimchoebiadhmaa.X
