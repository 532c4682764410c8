/- Tables, plain: what the reference computes. -/
import Derived.Test.YtbcpaojciephmaaPFew
import Derived.Test.YtbcpaojciephmaaX11
import Derived.Test.YtbcpaojciephmaaX9
import Derived.Test.YtbcpaojciephmaaX10
import Derived.Test.YtbcpaojciephmaaGCheck
import Derived.Test.YtbcpaojciephmaaGSame
namespace Go.Proofs.Ytbcpaojciephmaa.X
open Go.RowKit Go.Proofs.YtbcpaojciephmaaW.PrintWords
set_option linter.unusedVariables false

abbrev rdB (l : List ByteArray) (i : Int) : ByteArray := rdOf ByteArray.empty l i
/-- Small tables. -/
structure Sm (hd : List ByteArray) (rows : List (List ByteArray)) : Prop where
  h : hd.length ≤ 100
  r : rows.length ≤ 100
  w : ∀ j, j < rows.length → (rows.getD j []).length ≤ 100
theorem row_l0 (a b : List ByteArray) (hl : a.length = b.length) (hb : a.length ≤ 1000) : ∀ (d k i : Nat), i + d = a.length → d < k → (∀ j, j < i → rdB a (j : Int) = rdB b (j : Int)) → tartanref03_Row.l0 k a b (i : Nat) = some (decide (a = b)) := by
  intro d
  induction d with
  | zero =>
    intro k i hi hk h
    obtain ⟨k, rfl⟩ : ∃ m, k = m + 1 := ⟨k - 1, by omega⟩
    simp only [tartanref03_Row.l0]
    rw [if_neg (by omega), decide_eq_true (rd_eq hl (fun j hj => h j (by omega)))]
  | succ d ih =>
    intro k i hi hk h
    obtain ⟨k, rfl⟩ : ∃ m, k = m + 1 := ⟨k - 1, by omega⟩
    simp only [tartanref03_Row.l0]
    rw [if_pos (by omega), if_pos (by omega), if_pos (by omega), wrap_upF _ (by omega)]
    by_cases e : rdB a (i : Int) = rdB b (i : Int)
    · rw [if_pos (str_eq.2 e)]
      refine ih k (i + 1) (by omega) (by omega) (fun j hj => ?_)
      rcases Nat.lt_or_ge j i with h1 | h1
      · exact h j h1
      · obtain rfl : j = i := by omega
        exact e
    · rw [if_neg (fun h2 => e (str_eq.1 h2)), decide_eq_false (fun h2 => e (by rw [h2]))]
theorem row_some (a b : List ByteArray) (ha : a.length ≤ 1000) {k : Nat} (hk : 1001 ≤ k) : tartanref03_Row.f k a b = some (decide (a = b)) := by
  unfold tartanref03_Row.f
  by_cases hl : a.length = b.length
  · rw [if_pos (by omega)]
    exact row_l0 a b hl ha a.length k 0 (by omega) (by omega) (fun j hj => by omega)
  · rw [if_neg (by omega), decide_eq_false (fun e => hl (by rw [e]))]
theorem same_l0 (a b : List (List ByteArray)) (hl : a.length = b.length) (hb : a.length ≤ 1000) (hw : ∀ j, j < a.length → (a.getD j []).length ≤ 1000) : ∀ (d k i : Nat), i + d = a.length → d + 1001 < k → (∀ j, j < i → a.getD j [] = b.getD j []) → tartanref03_Same.l0 k a b (i : Nat) = some (decide (a = b)) := by
  intro d
  induction d with
  | zero =>
    intro k i hi hk h
    obtain ⟨k, rfl⟩ : ∃ m, k = m + 1 := ⟨k - 1, by omega⟩
    simp only [tartanref03_Same.l0]
    rw [if_neg (by omega), decide_eq_true (rows_eq hl (fun j hj => h j (by omega)))]
  | succ d ih =>
    intro k i hi hk h
    obtain ⟨k, rfl⟩ : ∃ m, k = m + 1 := ⟨k - 1, by omega⟩
    have hwi := hw i (by omega)
    simp only [tartanref03_Same.l0]
    rw [if_pos (by omega), if_pos (by omega), if_pos (by omega), wrap_upF _ (by omega), rdL_get, rdL_get, row_some _ _ hwi (by omega), Option.bind_some]
    by_cases e : a.getD i [] = b.getD i []
    · rw [decide_eq_true e, if_pos rfl]
      refine ih k (i + 1) (by omega) (by omega) (fun j hj => ?_)
      rcases Nat.lt_or_ge j i with h1 | h1
      · exact h j h1
      · obtain rfl : j = i := by omega
        exact e
    · rw [decide_eq_false e, if_neg (by decide), decide_eq_false (fun h2 => e (by rw [h2]))]
theorem same_some (a b : List (List ByteArray)) (ha : a.length ≤ 1000) (hw : ∀ j, j < a.length → (a.getD j []).length ≤ 1000) {k : Nat} (hk : 5000 ≤ k) : tartanref03_Same.f k a b = some (decide (a = b)) := by
  unfold tartanref03_Same.f
  by_cases hl : a.length = b.length
  · rw [if_pos (by omega)]
    exact same_l0 a b hl ha hw a.length k 0 (by omega) (by omega) (fun j hj => by omega)
  · rw [if_neg (by omega), decide_eq_false (fun e => hl (by rw [e]))]
theorem tsame_some (hd : List ByteArray) (rows : List (List ByteArray)) (hd' : List ByteArray) (rows' : List (List ByteArray)) (s : Sm hd rows) {k : Nat} (hk : 5000 ≤ k) : tartanref04_Same.f k hd rows hd' rows' = some (decide (hd = hd') && decide (rows = rows')) := by
  have h1 := s.h
  have h2 := s.r
  unfold tartanref04_Same.f
  rw [row_some _ _ (by omega) (by omega), Option.bind_some, same_some _ _ (by omega) (fun j hj => by have := s.w j hj; omega) hk, Option.bind_some]
  cases decide (hd = hd') <;> simp

/-! Total -/
theorem tot_l2 (hd : List ByteArray) (rows : List (List ByteArray)) (P : List ByteArray) (i : Nat) (hi : i < rows.length) (F : Nat) (R : Option Int) (hw : (rows.getD i []).length ≤ 100) (hi2 : i ≤ 1000)
    (H : ∀ k', F ≤ k' → tartanref04_Total.l1 k' (sumR (P ++ rows.getD i [])) ((i + 1 : Nat) : Int) hd rows = R) : ∀ (d k j : Nat), j + d = (rows.getD i []).length → d + F < k → tartanref04_Total.l2 k (sumR (P ++ (rows.getD i []).take j)) (i : Nat) (j : Nat) hd rows = R := by
  intro d
  induction d with
  | zero =>
    intro k j hj hk
    obtain ⟨k, rfl⟩ : ∃ m, k = m + 1 := ⟨k - 1, by omega⟩
    simp only [tartanref04_Total.l2]
    rw [if_pos (by omega), if_pos (by omega), rdL_get, if_neg (by omega), wrap_upF _ (by omega), List.take_of_length_le (by omega)]
    exact H k (by omega)
  | succ d ih =>
    intro k j hj hk
    obtain ⟨k, rfl⟩ : ∃ m, k = m + 1 := ⟨k - 1, by omega⟩
    simp only [tartanref04_Total.l2]
    rw [if_pos (by omega), if_pos (by omega), rdL_get, if_pos (by omega), if_pos (by omega), wrap_upF _ (by omega)]
    have := ih k (j + 1) (by omega) (by omega)
    rw [take_rdB (by omega), ← List.append_assoc, sumR_snoc] at this
    exact this
theorem tot_l1 (hd : List ByteArray) (rows : List (List ByteArray)) (s : Sm hd rows) : ∀ (d k i : Nat), i + d = rows.length → d * 102 < k → tartanref04_Total.l1 k (sumR (hd ++ (rows.take i).flatten)) (i : Nat) hd rows = some (totalR hd rows) := by
  have hr := s.r
  intro d
  induction d with
  | zero =>
    intro k i hi hk
    obtain ⟨k, rfl⟩ : ∃ m, k = m + 1 := ⟨k - 1, by omega⟩
    simp only [tartanref04_Total.l1]
    rw [if_neg (by omega), List.take_of_length_le (by omega)]
    rfl
  | succ d ih =>
    intro k i hi hk
    obtain ⟨k, rfl⟩ : ∃ m, k = m + 1 := ⟨k - 1, by omega⟩
    have hw := s.w i (by omega)
    simp only [tartanref04_Total.l1]
    rw [if_pos (by omega)]
    have := tot_l2 hd rows (hd ++ (rows.take i).flatten) i (by omega) (d * 102 + 1) (some (totalR hd rows)) hw (by omega) (fun k' hk' => ?_) (rows.getD i []).length k 0 (by omega) (by omega)
    · rw [List.take_zero, List.append_nil] at this
      exact this
    · rw [List.append_assoc, seq_next rows i (by omega)]
      exact ih k' (i + 1) (by omega) (by omega)
theorem tot_l0 (hd : List ByteArray) (rows : List (List ByteArray)) (s : Sm hd rows) : ∀ (d k i : Nat), i + d = hd.length → d + 10300 < k → tartanref04_Total.l0 k (sumR (hd.take i)) (i : Nat) hd rows = some (totalR hd rows) := by
  have hh := s.h
  have hr := s.r
  intro d
  induction d with
  | zero =>
    intro k i hi hk
    obtain ⟨k, rfl⟩ : ∃ m, k = m + 1 := ⟨k - 1, by omega⟩
    simp only [tartanref04_Total.l0]
    rw [if_neg (by omega), List.take_of_length_le (by omega)]
    have := tot_l1 hd rows s rows.length k 0 (by omega) (by omega)
    rw [List.take_zero, List.flatten_nil, List.append_nil] at this
    exact this
  | succ d ih =>
    intro k i hi hk
    obtain ⟨k, rfl⟩ : ∃ m, k = m + 1 := ⟨k - 1, by omega⟩
    simp only [tartanref04_Total.l0]
    rw [if_pos (by omega), if_pos (by omega), wrap_upF _ (by omega)]
    have := ih k (i + 1) (by omega) (by omega)
    rw [take_rdB (by omega), sumR_snoc] at this
    exact this
theorem tot_some (hd : List ByteArray) (rows : List (List ByteArray)) (s : Sm hd rows) {k : Nat} (hk : 20000 ≤ k) : tartanref04_Total.f k hd rows = some (totalR hd rows) := by
  have hh := s.h
  exact tot_l0 hd rows s hd.length k 0 (by omega) (by omega)

/-! Find -/
def FindAt (l : List ByteArray) (s : ByteArray) (r : Int) : Prop := (r = -1 ∧ ∀ j : Nat, j < l.length → rdB l (j : Int) ≠ s) ∨ ∃ i : Nat, r = i ∧ i < l.length ∧ rdB l (i : Int) = s ∧ ∀ j : Nat, j < i → rdB l (j : Int) ≠ s
theorem FindAt.uniq {l : List ByteArray} {s : ByteArray} {r q : Int} (h : FindAt l s r) (g : FindAt l s q) : r = q := by
  rcases h with ⟨rfl, h⟩ | ⟨i, rfl, hi, he, h⟩ <;> rcases g with ⟨rfl, g⟩ | ⟨j, rfl, hj, ge, g⟩
  · rfl
  · exact absurd ge (h j hj)
  · exact absurd he (g i hi)
  · rcases Nat.lt_trichotomy i j with hlt | rfl | hlt
    · exact absurd he (g i hlt)
    · rfl
    · exact absurd ge (h j hlt)
theorem rfind_l0 (l : List ByteArray) (rows : List (List ByteArray)) (s : ByteArray) (hl : l.length ≤ 1000) : ∀ (d k i : Nat), i + d = l.length → d < k → (∀ j : Nat, j < i → rdB l (j : Int) ≠ s) → ∃ r, FindAt l s r ∧ tartanref04_Find.l0 k s (i : Nat) l rows = some r := by
  intro d
  induction d with
  | zero =>
    intro k i hi hk h
    obtain ⟨k, rfl⟩ : ∃ m, k = m + 1 := ⟨k - 1, by omega⟩
    simp only [tartanref04_Find.l0]
    rw [if_neg (by omega)]
    exact ⟨-1, .inl ⟨rfl, fun j hj => h j (by omega)⟩, rfl⟩
  | succ d ih =>
    intro k i hi hk h
    obtain ⟨k, rfl⟩ : ∃ m, k = m + 1 := ⟨k - 1, by omega⟩
    simp only [tartanref04_Find.l0]
    rw [if_pos (by omega), if_pos (by omega), wrap_upF _ (by omega)]
    by_cases e : rdB l (i : Int) = s
    · rw [if_pos (str_eq.2 e)]
      exact ⟨i, .inr ⟨i, rfl, by omega, e, h⟩, rfl⟩
    · rw [if_neg (fun h2 => e (str_eq.1 h2))]
      refine ih k (i + 1) (by omega) (by omega) (fun j hj => ?_)
      rcases Nat.lt_or_ge j i with h1 | h1
      · exact h j h1
      · obtain rfl : j = i := by omega
        exact e
theorem rfind_some (l : List ByteArray) (rows : List (List ByteArray)) (s : ByteArray) (hl : l.length ≤ 1000) {k : Nat} (hk : 2000 ≤ k) : ∃ r, FindAt l s r ∧ tartanref04_Find.f k l rows s = some r :=
  rfind_l0 l rows s hl l.length k 0 (by omega) (by omega) (fun j hj => by omega)

/-! Check -/
def lg (l : List ByteArray) : Bool := l.any fun c => decide (1000 < c.size)
theorem lg_rd {l : List ByteArray} {i : Nat} (hi : i < l.length) : lg (l.drop i) = (decide (1000 < (rdB l (i : Int)).size) || lg (l.drop (i + 1))) := by
  rw [List.drop_eq_getElem_cons hi]
  show (decide (1000 < (l[i]).size) || _) = _
  unfold rdB rdOf
  rw [show ((i : Int)).toNat = i from rfl, List.getD_eq_getElem?_getD, List.getElem?_eq_getElem hi]
  rfl
theorem long_l0 (l : List ByteArray) (hl : l.length ≤ 1000) : ∀ (d k i : Nat), i + d = l.length → d < k → tartanref04_long.l0 k l (i : Nat) = some (lg (l.drop i)) := by
  intro d
  induction d with
  | zero =>
    intro k i hi hk
    obtain ⟨k, rfl⟩ : ∃ m, k = m + 1 := ⟨k - 1, by omega⟩
    simp only [tartanref04_long.l0]
    rw [if_neg (by omega), List.drop_eq_nil_of_le (by omega)]
    rfl
  | succ d ih =>
    intro k i hi hk
    obtain ⟨k, rfl⟩ : ∃ m, k = m + 1 := ⟨k - 1, by omega⟩
    simp only [tartanref04_long.l0]
    rw [if_pos (by omega), if_pos (by omega), wrap_upF _ (by omega), lg_rd (by omega)]
    by_cases e : ((rdB l (i : Int)).size : Int) > 1000
    · rw [if_pos e, decide_eq_true (by omega)]; rfl
    · rw [if_neg e, decide_eq_false (by omega), ih k (i + 1) (by omega) (by omega)]; rfl
theorem long_some (l : List ByteArray) (hl : l.length ≤ 1000) {k : Nat} (hk : 1001 ≤ k) : tartanref04_long.f k l = some (lg l) := by
  have := long_l0 l hl l.length k 0 (by omega) (by omega)
  rw [List.drop_zero] at this
  exact this
theorem any_row {rows : List (List ByteArray)} {i : Nat} (hi : i < rows.length) : (rows.drop i).any lg = (lg (rows.getD i []) || (rows.drop (i + 1)).any lg) := by
  rw [List.drop_eq_getElem_cons hi, List.any_cons, List.getD_eq_getElem?_getD, List.getElem?_eq_getElem hi]; rfl
theorem chk_l2 (hd : List ByteArray) (rows : List (List ByteArray)) (s : Sm hd rows) : ∀ (d k i : Nat) (f : Bool), i + d = rows.length → d + 20001 < k → tartanref04_Check.l2 k f (i : Nat) hd rows = some (if (f || (rows.drop i).any lg) = true then 7 else if totalR hd rows ≤ 40000 then 0 else 7) := by
  have hr := s.r
  intro d
  induction d with
  | zero =>
    intro k i f hi hk
    obtain ⟨k, rfl⟩ : ∃ m, k = m + 1 := ⟨k - 1, by omega⟩
    simp only [tartanref04_Check.l2]
    rw [if_neg (by omega), List.drop_eq_nil_of_le (by omega)]
    cases f with
    | true => rfl
    | false =>
      rw [if_neg (by decide), tot_some hd rows s (by omega), Option.bind_some]
      by_cases h : totalR hd rows ≤ 40000
      · rw [if_neg (by omega)]; simp [h]
      · rw [if_pos (by omega)]; simp [h]
  | succ d ih =>
    intro k i f hi hk
    obtain ⟨k, rfl⟩ : ∃ m, k = m + 1 := ⟨k - 1, by omega⟩
    have hw := s.w i (by omega)
    simp only [tartanref04_Check.l2]
    rw [if_pos (by omega), if_pos (by omega), rdL_get, long_some _ (by omega) (by omega), Option.bind_some, wrap_upF _ (by omega), any_row (by omega)]
    cases f with
    | true => rw [if_pos rfl, ih k (i + 1) true (by omega) (by omega)]; rfl
    | false => rw [if_neg (by decide), ih k (i + 1) _ (by omega) (by omega)]; rfl
theorem large_eq (hd : List ByteArray) (rows : List (List ByteArray)) : largeR hd rows = if 40 < hd.length ∨ 400 < rows.length then 7 else if (lg hd || rows.any lg) = true then 7 else if totalR hd rows ≤ 40000 then 0 else 7 := by
  unfold largeR
  have : (seqR hd rows).any (fun c => decide (1000 < c.size)) = (lg hd || rows.any lg) := by
    unfold seqR
    rw [List.flatten_cons, List.any_append, List.any_flatten]; rfl
  rw [this]
theorem first_nodup (l : List ByteArray) : l.Nodup ↔ ∀ i, i < l.length → ∀ j : Nat, j < i → rdB l (j : Int) ≠ rdB l (i : Int) := by
  have hg : ∀ i (h : i < l.length), rdB l (i : Int) = l[i] := fun i h => by
    unfold rdB rdOf
    rw [show ((i : Int)).toNat = i from rfl, List.getD_eq_getElem?_getD, List.getElem?_eq_getElem h]; rfl
  unfold List.Nodup
  rw [List.pairwise_iff_getElem]
  constructor
  · intro h i hi j hj
    rw [hg i hi, hg j (by omega)]
    exact h j i (by omega) hi hj
  · intro h i j hi hj hij
    have := h j hj i hij
    rw [hg i hi, hg j hj] at this
    exact this
theorem chk_l1 (hd : List ByteArray) (rows : List (List ByteArray)) (s : Sm hd rows) : ∀ (d k i : Nat), i + d = hd.length → d + 30000 < k → (∀ m, m < i → ∀ j : Nat, j < m → rdB hd (j : Int) ≠ rdB hd (m : Int)) → tartanref04_Check.l1 k (i : Nat) hd rows = some (if hd.Nodup then largeR hd rows else 10) := by
  have hh := s.h
  have hr := s.r
  intro d
  induction d with
  | zero =>
    intro k i hi hk h
    obtain ⟨k, rfl⟩ : ∃ m, k = m + 1 := ⟨k - 1, by omega⟩
    obtain ⟨k, rfl⟩ : ∃ m, k = m + 1 := ⟨k - 1, by omega⟩
    rw [if_pos ((first_nodup hd).2 (fun i' hi' => h i' (by omega))), large_eq]
    simp only [tartanref04_Check.l1]
    rw [if_neg (by omega)]
    have h2 := fun f => chk_l2 hd rows s rows.length k 0 f (by omega) (by omega)
    simp only [List.drop_zero] at h2
    by_cases h4 : 40 < hd.length
    · rw [if_pos (by omega), if_pos (.inl h4)]
      simp only [tartanref04_Check.j2]
      exact h2 true
    · rw [if_neg (by omega), if_neg (by omega), long_some _ (by omega) (by omega), Option.bind_some, if_neg (by omega)]
      simp only [tartanref04_Check.j2]
      exact h2 _
  | succ d ih =>
    intro k i hi hk h
    obtain ⟨k, rfl⟩ : ∃ m, k = m + 1 := ⟨k - 1, by omega⟩
    simp only [tartanref04_Check.l1]
    obtain ⟨r, hF, e⟩ := rfind_some hd rows (rdB hd (i : Int)) (by omega) (k := k) (by omega)
    rw [if_pos (by omega), if_pos (by omega), e, Option.bind_some, wrap_upF _ (by omega)]
    by_cases he : r = (i : Int)
    · rw [if_pos he]
      refine ih k (i + 1) (by omega) (by omega) (fun m hm j hj => ?_)
      rcases Nat.lt_or_ge m i with h1 | h1
      · exact h m h1 j hj
      · obtain rfl : m = i := by omega
        rcases hF with ⟨h3, _⟩ | ⟨q, hq, _, _, h5⟩
        · omega
        · exact h5 j (by omega)
    · rw [if_neg he, if_neg]
      intro hn
      have hn2 := (first_nodup hd).1 hn i (by omega)
      exact he (hF.uniq (.inr ⟨i, rfl, by omega, rfl, hn2⟩))
theorem wide_at {rows : List (List ByteArray)} {m i : Nat} (hi : i < rows.length) : wideR (rows.drop i) m = (decide ((rows.getD i []).length ≠ m) || wideR (rows.drop (i + 1)) m) := by
  unfold wideR
  rw [List.drop_eq_getElem_cons hi, List.any_cons, List.getD_eq_getElem?_getD, List.getElem?_eq_getElem hi]; rfl
theorem chk_l0 (hd : List ByteArray) (rows : List (List ByteArray)) (s : Sm hd rows) : ∀ (d k i : Nat), i + d = rows.length → d + 31000 < k → tartanref04_Check.l0 k (i : Nat) hd rows = some (if wideR (rows.drop i) hd.length = true then 9 else if hd.Nodup then largeR hd rows else 10) := by
  have hh := s.h
  have hr := s.r
  intro d
  induction d with
  | zero =>
    intro k i hi hk
    obtain ⟨k, rfl⟩ : ∃ m, k = m + 1 := ⟨k - 1, by omega⟩
    simp only [tartanref04_Check.l0]
    rw [if_neg (by omega), List.drop_eq_nil_of_le (by omega), if_neg (by simp [wideR])]
    exact chk_l1 hd rows s hd.length k 0 (by omega) (by omega) (fun m hm => by omega)
  | succ d ih =>
    intro k i hi hk
    obtain ⟨k, rfl⟩ : ∃ m, k = m + 1 := ⟨k - 1, by omega⟩
    simp only [tartanref04_Check.l0]
    rw [if_pos (by omega), if_pos (by omega), rdL_get, wrap_upF _ (by omega), wide_at (by omega)]
    by_cases e : (rows.getD i []).length = hd.length
    · rw [if_pos (by omega), ih k (i + 1) (by omega) (by omega), decide_eq_false (fun h => h e)]; rfl
    · rw [if_neg (by omega), decide_eq_true e]; rfl
theorem check_eq (hd : List ByteArray) (rows : List (List ByteArray)) : checkT hd rows = if hd.length = 0 then 8 else if wideR rows hd.length = true then 9 else if hd.Nodup then largeR hd rows else 10 := by
  unfold checkT ckR
  by_cases h1 : hd.length = 0
  · simp [h1]
  · by_cases h2 : wideR rows hd.length = true
    · simp [h1, h2]
    · by_cases h3 : hd.Nodup
      · simp [h1, h2, h3]
      · simp [h1, h2, h3]
theorem chk_some (hd : List ByteArray) (rows : List (List ByteArray)) (s : Sm hd rows) {k : Nat} (hk : 40000 ≤ k) : tartanref04_Check.f k hd rows = some (checkT hd rows) := by
  have hr := s.r
  rw [check_eq]
  unfold tartanref04_Check.f
  by_cases h : hd.length = 0
  · rw [if_pos (by omega), if_pos h]
  · rw [if_neg (by omega), if_neg h]
    have := chk_l0 hd rows s rows.length k 0 (by omega) (by omega)
    rw [List.drop_zero] at this
    exact this
end Go.Proofs.Ytbcpaojciephmaa.X
