/- Cells, columns, names: plain. -/
import Derived.Test.YtbcpaojciephmaaPTableOk
import Derived.Test.YtbcpaojciephmaaX4
import Derived.Test.YtbcpaojciephmaaX5
import Derived.Test.YtbcpaojciephmaaX13
namespace Go.Proofs.Ytbcpaojciephmaa.X
open Go.RowKit Go.Proofs.YtbcpaojciephmaaW.PrintWords
set_option linter.unusedVariables false
def cellT (rows : List (List ByteArray)) (i c : Int) : ByteArray := if i < 0 ∨ i ≥ (rows.length : Int) ∨ c < 0 ∨ c ≥ ((rows.getD i.toNat []).length : Int) then ⟨#[]⟩ else rdB (rows.getD i.toNat []) c
theorem rdL_int (rows : List (List ByteArray)) (i : Int) : rd_L1 rows i = rows.getD i.toNat [] := rfl
theorem cell_some (hd : List ByteArray) (rows : List (List ByteArray)) (i c : Int) : table_Cell.f hd rows i c = some (cellT rows i c) := by
  unfold table_Cell.f cellT
  by_cases h1 : i < 0
  · rw [if_pos h1, if_pos (.inl h1)]
  · rw [if_neg h1]
    by_cases h2 : i ≥ (rows.length : Int)
    · rw [if_pos h2, if_pos (.inr (.inl h2))]
    · rw [if_neg h2]
      by_cases h3 : c < 0
      · rw [if_pos h3, if_pos (.inr (.inr (.inl h3)))]
      · rw [if_neg h3, if_pos (by omega), if_pos (by omega)]
        rw [rdL_int]
        by_cases h4 : c ≥ ((rows.getD i.toNat []).length : Int)
        · rw [if_pos h4, if_pos (.inr (.inr (.inr h4)))]
        · rw [if_neg h4, if_pos (by omega), if_pos (by omega), if_neg (by omega)]
theorem rcell_some (hd : List ByteArray) (rows : List (List ByteArray)) (i c : Int) : tartanref04_Cell.f hd rows i c = some (cellT rows i c) := cell_some hd rows i c
def colT (rows : List (List ByteArray)) (c : Int) (n : Nat) : List ByteArray := (List.range n).map fun i : Nat => cellT rows (i : Int) c
theorem colT_len (rows : List (List ByteArray)) (c : Int) (n : Nat) : (colT rows c n).length = n := by simp [colT]
theorem colT_get (rows : List (List ByteArray)) (c : Int) {n i : Nat} (h : i < n) : (colT rows c n)[i]? = some (cellT rows (i : Int) c) := by
  unfold colT
  rw [List.getElem?_map, List.getElem?_range h]; rfl
theorem colT_snoc (rows : List (List ByteArray)) (c : Int) (n : Nat) : colT rows c (n + 1) = colT rows c n ++ [cellT rows (n : Int) c] := by
  unfold colT; rw [List.range_succ, List.map_append]; rfl
theorem col_l0 (hd : List ByteArray) (rows : List (List ByteArray)) (c : Int) (hr : rows.length ≤ 1000) : ∀ (d k i : Nat) (l : List ByteArray), i + d = rows.length → d < k → l.length = rows.length → (∀ j, j < i → l[j]? = some (cellT rows (j : Int) c)) → table_Column.l0 k c l (rows.length : Int) (i : Nat) hd rows = some (colT rows c rows.length) := by
  intro d
  induction d with
  | zero =>
    intro k i l hi hk hl h
    obtain ⟨k, rfl⟩ : ∃ m, k = m + 1 := ⟨k - 1, by omega⟩
    simp only [table_Column.l0]
    rw [if_neg (by omega)]
    congr 1
    refine List.ext_getElem? fun j => ?_
    rcases Nat.lt_or_ge j rows.length with hj | hj
    · rw [h j (by omega), colT_get _ _ hj]
    · rw [List.getElem?_eq_none (by omega), List.getElem?_eq_none (by rw [colT_len]; exact hj)]
  | succ d ih =>
    intro k i l hi hk hl h
    obtain ⟨k, rfl⟩ : ∃ m, k = m + 1 := ⟨k - 1, by omega⟩
    simp only [table_Column.l0]
    rw [if_pos (by omega), cell_some, Option.bind_some, if_pos (by omega), if_pos (by omega), wrap_upF _ (by omega)]
    refine ih k (i + 1) _ (by omega) (by omega) (by rw [List.length_set]; exact hl) (fun j hj => ?_)
    show (l.set i _)[j]? = _
    rcases Nat.lt_or_ge j i with h1 | h1
    · rw [List.getElem?_set_ne (by omega)]; exact h j h1
    · obtain rfl : j = i := by omega
      rw [List.getElem?_set_self (by omega)]
theorem rcol_l0 (hd : List ByteArray) (rows : List (List ByteArray)) (c : Int) (hr : rows.length ≤ 1000) : ∀ (d k i : Nat), i + d = rows.length → d < k → tartanref04_Column.l0 k c (colT rows c i) (i : Nat) hd rows = some (colT rows c rows.length) := by
  intro d
  induction d with
  | zero =>
    intro k i hi hk
    obtain ⟨k, rfl⟩ : ∃ m, k = m + 1 := ⟨k - 1, by omega⟩
    simp only [tartanref04_Column.l0]
    rw [if_neg (by omega), show i = rows.length by omega]
  | succ d ih =>
    intro k i hi hk
    obtain ⟨k, rfl⟩ : ∃ m, k = m + 1 := ⟨k - 1, by omega⟩
    simp only [tartanref04_Column.l0]
    rw [if_pos (by omega), rcell_some, Option.bind_some, if_pos (by rw [colT_len]; omega), wrap_upF _ (by omega), ← colT_snoc]
    exact ih k (i + 1) (by omega) (by omega)
def columnT (hd : List ByteArray) (rows : List (List ByteArray)) (c : Int) : List ByteArray := if c < 0 ∨ c ≥ (hd.length : Int) then [] else colT rows c rows.length
theorem columnT_len (hd : List ByteArray) (rows : List (List ByteArray)) (c : Int) : (columnT hd rows c).length ≤ rows.length := by
  unfold columnT; split
  · simp
  · rw [colT_len]; exact Nat.le_refl _
theorem col_some (hd : List ByteArray) (rows : List (List ByteArray)) (c : Int) (hr : rows.length ≤ 1000) {k : Nat} (hk : 2000 ≤ k) : table_Column.f k hd rows c = some (columnT hd rows c) := by
  obtain ⟨k, rfl⟩ : ∃ m, k = m + 1 := ⟨k - 1, by omega⟩
  unfold table_Column.f columnT
  by_cases h1 : c < 0
  · rw [if_pos h1, if_pos (.inl h1)]; simp [table_Column.j0]
  · rw [if_neg h1]
    by_cases h2 : c ≥ (hd.length : Int)
    · rw [if_pos (.inr h2), decide_eq_true h2]; simp [table_Column.j0]
    · rw [if_neg (by omega), decide_eq_false h2]
      simp only [table_Column.j0]
      rw [if_neg (by decide), if_pos (by omega), if_pos (by omega), Option.bind_some]
      have e : ((List.replicate ((rows.length : Int)).toNat (⟨#[]⟩ : ByteArray)).length : Int) = (rows.length : Int) := by simp
      rw [e]
      exact col_l0 hd rows c hr rows.length k 0 _ (by omega) (by omega) (by simp) (fun j hj => by omega)
theorem rcol_some (hd : List ByteArray) (rows : List (List ByteArray)) (c : Int) (hr : rows.length ≤ 1000) {k : Nat} (hk : 2000 ≤ k) : tartanref04_Column.f k hd rows c = some (columnT hd rows c) := by
  obtain ⟨k, rfl⟩ : ∃ m, k = m + 1 := ⟨k - 1, by omega⟩
  unfold tartanref04_Column.f columnT
  by_cases h1 : c < 0
  · rw [if_pos h1, if_pos (.inl h1)]; simp [tartanref04_Column.j0]
  · rw [if_neg h1]
    by_cases h2 : c ≥ (hd.length : Int)
    · rw [if_pos (.inr h2), decide_eq_true h2]; simp [tartanref04_Column.j0]
    · rw [if_neg (by omega), decide_eq_false h2]
      simp only [tartanref04_Column.j0]
      rw [if_neg (by decide)]
      exact rcol_l0 hd rows c hr rows.length k 0 (by omega) (by omega)
theorem find_l0 (l : List ByteArray) (s : ByteArray) (hl : l.length ≤ 1000) : ∀ (d k i : Nat), i + d = l.length → d < k → (∀ j : Nat, j < i → rdB l (j : Int) ≠ s) → ∃ r, FindAt l s r ∧ slices_Index_string_string.l0 k l s (l.length : Int) (i : Nat) = some r := by
  intro d
  induction d with
  | zero =>
    intro k i hi hk h
    obtain ⟨k, rfl⟩ : ∃ m, k = m + 1 := ⟨k - 1, by omega⟩
    simp only [slices_Index_string_string.l0]
    rw [if_neg (by omega)]
    exact ⟨-1, .inl ⟨rfl, fun j hj => h j (by omega)⟩, rfl⟩
  | succ d ih =>
    intro k i hi hk h
    obtain ⟨k, rfl⟩ : ∃ m, k = m + 1 := ⟨k - 1, by omega⟩
    simp only [slices_Index_string_string.l0]
    rw [if_pos (by omega), if_pos (by omega), if_pos (by omega), wrap_upF _ (by omega)]
    by_cases e : rdB l (i : Int) = s
    · rw [if_pos (str_eq.2 e.symm)]
      exact ⟨i, .inr ⟨i, rfl, by omega, e, h⟩, rfl⟩
    · rw [if_neg (fun h2 => e (str_eq.1 h2).symm)]
      refine ih k (i + 1) (by omega) (by omega) (fun j hj => ?_)
      rcases Nat.lt_or_ge j i with h1 | h1
      · exact h j h1
      · obtain rfl : j = i := by omega
        exact e
theorem find_some (l : List ByteArray) (rows : List (List ByteArray)) (s : ByteArray) (hl : l.length ≤ 1000) {k : Nat} (hk : 2000 ≤ k) : ∃ r, FindAt l s r ∧ table_Find.f k l rows s = some r := by
  obtain ⟨r, h, e⟩ := find_l0 l s hl l.length k 0 (by omega) (by omega) (fun j hj => by omega)
  refine ⟨r, h, ?_⟩
  have e' : slices_Index_string_string.f k l s = some r := e
  unfold table_Find.f
  rw [e', Option.bind_some]
theorem rrec_some (hd : List ByteArray) (rows : List (List ByteArray)) (hr : rows.length ≤ 1000) : tartanref04_Records.f hd rows = some (hd :: rows) := by
  unfold tartanref04_Records.f
  rw [Option.bind_some, if_pos (by simp; omega)]; rfl
end Go.Proofs.Ytbcpaojciephmaa.X
