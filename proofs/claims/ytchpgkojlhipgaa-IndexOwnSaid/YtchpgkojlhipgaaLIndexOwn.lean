/- IndexOwn: for every input the law returns true, and its arguments read as they did. -/
import Derived.Test.YtchpgkojlhipgaaX8
import Derived.Test.YtchpgkojlhipgaaGFind
import Derived.Test.YtchpgkojlhipgaaX11
import Derived.Test.YtchpgkojlhipgaaX10
import Derived.Test.YtchpgkojlhipgaaX14
import Derived.Test.YtchpgkojlhipgaaX9
import Derived.Test.YtchpgkojlhipgaaX1
import Derived.Test.YtchpgkojlhipgaaX12
import Derived.Test.YtchpgkojlhipgaaX5
import Derived.Test.YtchpgkojlhipgaaX20
import Derived.Test.YtchpgkojlhipgaaGUnique
import Derived.Test.YtchpgkojlhipgaaROpen
import Derived.Test.YtchpgkojlhipgaaRows
import Derived.WalkKit
import Derived.ProofKit
import Derived.OpenShut
import Derived.ShutString
import Derived.ChangeOld
import Derived.Below
section
/- Is a table so small that it is looked at? An answer comes, whatever it holds; and what is small has few rows. -/
namespace Go.Proofs.Ytchpgkojlhipgaa.X
open Go.RowKit Go.Proofs.YtchpgkojlhipgaaW.PrintWords
set_option linter.unusedVariables false
theorem wrap_inF {n : Int} (h0 : -1000000000000 ≤ n) (h1 : n ≤ 1000000000000) : wrap64 n = n := by unfold wrap64; omega
theorem wrap_upF (i : Nat) (h : i ≤ 1000000000) : wrap64 ((i : Int) + 1) = ((i + 1 : Nat) : Int) := by rw [wrap_inF (by omega) (by omega)]; omega
theorem rdL_get (rows : List (List ByteArray)) (i : Nat) : rd_L2 rows (i : Int) = rows.getD i [] := rfl
theorem few_l1 (rows : List (List ByteArray)) (i : Nat) (hi : i < rows.length) (F : Nat) (Q : Option Bool → Prop) (h0 : Q (some false)) (H : ∀ k' x, F ≤ k' → Q (tartanref03_Few.l0 k' rows x (wrap64 ((i : Int) + 1)))) :
    ∀ (d k j : Nat) (x : Int), j + d = (rows.getD i []).length → (rows.getD i []).length ≤ 1000 → d + F + 1 ≤ k → Q (tartanref03_Few.l1 k rows x (i : Nat) (j : Nat)) := by
  intro d
  induction d with
  | zero =>
    intro k j x hj hl hk
    obtain ⟨k, rfl⟩ : ∃ m, k = m + 1 := ⟨k - 1, by omega⟩
    simp only [tartanref03_Few.l1]
    rw [if_pos (by omega), if_pos (by omega), rdL_get, if_neg (by omega)]
    exact H k x (by omega)
  | succ d ih =>
    intro k j x hj hl hk
    obtain ⟨k, rfl⟩ : ∃ m, k = m + 1 := ⟨k - 1, by omega⟩
    simp only [tartanref03_Few.l1]
    rw [if_pos (by omega), if_pos (by omega), rdL_get, if_pos (by omega), if_pos (by omega), wrap_upF _ (by omega)]
    split
    · exact h0
    · exact ih k (j + 1) _ (by omega) hl (by omega)
theorem few_l0 (rows : List (List ByteArray)) (hr : rows.length ≤ 60) : ∀ (d k i : Nat) (x : Int), i + d = rows.length → d * 64 < k → ∃ b, tartanref03_Few.l0 k rows x (i : Nat) = some b ∧ (b = true → ∀ j, i ≤ j → j < rows.length → (rows.getD j []).length ≤ 60) := by
  intro d
  induction d with
  | zero =>
    intro k i x hi hk
    obtain ⟨k, rfl⟩ : ∃ m, k = m + 1 := ⟨k - 1, by omega⟩
    simp only [tartanref03_Few.l0]
    rw [if_neg (by omega)]
    exact ⟨true, rfl, fun _ j h1 h2 => by omega⟩
  | succ d ih =>
    intro k i x hi hk
    obtain ⟨k, rfl⟩ : ∃ m, k = m + 1 := ⟨k - 1, by omega⟩
    simp only [tartanref03_Few.l0]
    rw [if_pos (by omega), if_pos (by omega), rdL_get]
    by_cases h : ((rows.getD i []).length : Int) > 60
    · rw [if_pos h]
      exact ⟨false, rfl, fun h => by cases h⟩
    · rw [if_neg h]
      refine few_l1 rows i (by omega) (d * 64 + 1) (fun r => ∃ b, r = some b ∧ (b = true → ∀ j, i ≤ j → j < rows.length → (rows.getD j []).length ≤ 60)) ⟨false, rfl, fun h => by cases h⟩ (fun k' x' hk' => ?_) (rows.getD i []).length k 0 x (by omega) (by omega) (by omega)
      rw [wrap_upF _ (by omega)]
      obtain ⟨b, e, hb⟩ := ih k' (i + 1) x' (by omega) (by omega)
      refine ⟨b, e, fun hb' j h1 h2 => ?_⟩
      rcases Nat.lt_or_ge i j with h3 | h3
      · exact hb hb' j h3 h2
      · obtain rfl : j = i := by omega
        omega
theorem few_some (rows : List (List ByteArray)) {k : Nat} (hk : 10000 ≤ k) : ∃ b, tartanref03_Few.f k rows = some b ∧ (b = true → rows.length ≤ 60 ∧ ∀ j, j < rows.length → (rows.getD j []).length ≤ 60) := by
  unfold tartanref03_Few.f
  by_cases h : (rows.length : Int) > 60
  · rw [if_pos h]; exact ⟨false, rfl, fun h => by cases h⟩
  · rw [if_neg h]
    obtain ⟨b, e, hb⟩ := few_l0 rows (by omega) rows.length k 0 0 (by omega) (by omega)
    exact ⟨b, e, fun h2 => ⟨by omega, fun j hj => hb h2 j (Nat.zero_le _) hj⟩⟩
theorem total_l2 (h : List ByteArray) (rows : List (List ByteArray)) (i : Nat) (hi : i < rows.length) (F : Nat) (Q : Option Int → Prop) (H : ∀ k' x, F ≤ k' → Q (tartanref04_Total.l1 k' x (wrap64 ((i : Int) + 1)) h rows)) :
    ∀ (d k j : Nat) (x : Int), j + d = (rows.getD i []).length → (rows.getD i []).length ≤ 1000 → d + F + 1 ≤ k → Q (tartanref04_Total.l2 k x (i : Nat) (j : Nat) h rows) := by
  intro d
  induction d with
  | zero =>
    intro k j x hj hl hk
    obtain ⟨k, rfl⟩ : ∃ m, k = m + 1 := ⟨k - 1, by omega⟩
    simp only [tartanref04_Total.l2]
    rw [if_pos (by omega), if_pos (by omega), rdL_get, if_neg (by omega)]
    exact H k x (by omega)
  | succ d ih =>
    intro k j x hj hl hk
    obtain ⟨k, rfl⟩ : ∃ m, k = m + 1 := ⟨k - 1, by omega⟩
    simp only [tartanref04_Total.l2]
    rw [if_pos (by omega), if_pos (by omega), rdL_get, if_pos (by omega), if_pos (by omega), wrap_upF _ (by omega)]
    exact ih k (j + 1) _ (by omega) hl (by omega)
theorem total_l1 (h : List ByteArray) (rows : List (List ByteArray)) (hr : rows.length ≤ 60) (hw : ∀ j, j < rows.length → (rows.getD j []).length ≤ 60) : ∀ (d k i : Nat) (x : Int), i + d = rows.length → d * 64 < k → ∃ t, tartanref04_Total.l1 k x (i : Nat) h rows = some t := by
  intro d
  induction d with
  | zero =>
    intro k i x hi hk
    obtain ⟨k, rfl⟩ : ∃ m, k = m + 1 := ⟨k - 1, by omega⟩
    simp only [tartanref04_Total.l1]
    rw [if_neg (by omega)]
    exact ⟨x, rfl⟩
  | succ d ih =>
    intro k i x hi hk
    obtain ⟨k, rfl⟩ : ∃ m, k = m + 1 := ⟨k - 1, by omega⟩
    have hwi := hw i (by omega)
    simp only [tartanref04_Total.l1]
    rw [if_pos (by omega)]
    refine total_l2 h rows i (by omega) (d * 64 + 1) (fun r => ∃ t, r = some t) (fun k' x' hk' => ?_) (rows.getD i []).length k 0 x (by omega) (by omega) (by omega)
    rw [wrap_upF _ (by omega)]
    exact ih k' (i + 1) x' (by omega) (by omega)
theorem total_l0 (h : List ByteArray) (rows : List (List ByteArray)) (hh : h.length ≤ 60) (hr : rows.length ≤ 60) (hw : ∀ j, j < rows.length → (rows.getD j []).length ≤ 60) : ∀ (d k i : Nat) (x : Int), i + d = h.length → d + 5000 < k → ∃ t, tartanref04_Total.l0 k x (i : Nat) h rows = some t := by
  intro d
  induction d with
  | zero =>
    intro k i x hi hk
    obtain ⟨k, rfl⟩ : ∃ m, k = m + 1 := ⟨k - 1, by omega⟩
    simp only [tartanref04_Total.l0]
    rw [if_neg (by omega)]
    exact total_l1 h rows hr hw rows.length k 0 x (by omega) (by omega)
  | succ d ih =>
    intro k i x hi hk
    obtain ⟨k, rfl⟩ : ∃ m, k = m + 1 := ⟨k - 1, by omega⟩
    simp only [tartanref04_Total.l0]
    rw [if_pos (by omega), if_pos (by omega), wrap_upF _ (by omega)]
    exact ih k (i + 1) _ (by omega) (by omega)
/-- What is small has few rows, few columns, and rows with few cells. -/
theorem few4_some (h : List ByteArray) (rows : List (List ByteArray)) {k : Nat} (hk : 10000 ≤ k) : ∃ b, tartanref04_Few.f k h rows = some b ∧ (b = true → h.length ≤ 60 ∧ rows.length ≤ 60 ∧ ∀ j, j < rows.length → (rows.getD j []).length ≤ 60) := by
  unfold tartanref04_Few.f
  obtain ⟨b, e, hb⟩ := few_some rows hk
  rw [e, Option.bind_some]
  cases b with
  | false => rw [if_neg (by decide)]; exact ⟨false, rfl, fun h => by cases h⟩
  | true =>
    obtain ⟨h1, h2⟩ := hb rfl
    rw [if_pos rfl]
    by_cases h3 : (h.length : Int) ≤ 60
    · rw [if_pos h3]
      obtain ⟨t, et⟩ := total_l0 h rows (by omega) h1 h2 h.length k 0 0 (by omega) (by omega)
      have et' : tartanref04_Total.f k h rows = some t := et
      rw [et', Option.bind_some]
      exact ⟨_, rfl, fun _ => ⟨by omega, h1, h2⟩⟩
    · rw [if_neg h3]; exact ⟨false, rfl, fun h => by cases h⟩
end Go.Proofs.Ytchpgkojlhipgaa.X
end
section
/- What the references of layer 12 compute; rows in order, plainly. -/
namespace Go.Proofs.Ytchpgkojlhipgaa.X
open Go.RowKit Go.Proofs.YtchpgkojlhipgaaW.PrintWords
set_option linter.unusedVariables false

theorem rcell_some (h : List ByteArray) (rows : List (List ByteArray)) (r c : Int) : tartanref04_Cell.f h rows r c = some (cellR rows r c) := by
  rw [← cell_some h rows r c]; rfl
theorem rkey_l0 (h : List ByteArray) (rows : List (List ByteArray)) (r : Int) (cols : List Int) (hc : cols.length ≤ 1000000) : ∀ (d k i : Nat), i + d = cols.length → d < k → tartanref11_Key.l0 k r cols ((keyR rows r cols).take i) (i : Nat) h rows = some (keyR rows r cols) := by
  have hl := keyR_len rows r cols
  intro d
  induction d with
  | zero =>
    intro k i hi hk
    obtain ⟨k, rfl⟩ : ∃ m, k = m + 1 := ⟨k - 1, by omega⟩
    simp only [tartanref11_Key.l0]
    rw [if_neg (by omega), List.take_of_length_le (by omega)]
  | succ d ih =>
    intro k i hi hk
    obtain ⟨k, rfl⟩ : ∃ m, k = m + 1 := ⟨k - 1, by omega⟩
    have ih' := ih k (i + 1) (by omega) (by omega)
    have et : (keyR rows r cols).take (i + 1) = (keyR rows r cols).take i ++ [cellR rows r (rd cols (i : Int))] := by
      unfold keyR
      rw [← List.map_take, ← List.map_take, List.take_succ_eq_append_getElem (by omega), List.map_append]
      have e : rd cols (i : Int) = cols[i] := by unfold rd; rw [show ((i : Int)).toNat = i from rfl, List.getD_eq_getElem?_getD, List.getElem?_eq_getElem (by omega)]; rfl
      rw [e]; rfl
    simp only [tartanref11_Key.l0]
    rw [if_pos (by omega), if_pos (by omega), rcell_some, Option.bind_some, if_pos (by rw [List.length_take]; omega), wrap_upK _ (by omega), ← et, ih']
theorem rkey_some {h : List ByteArray} {rows : List (List ByteArray)} {r : Int} {cols : List Int} (hc : cols.length ≤ 1000000) {k : Nat} (hk : cols.length < k) : tartanref11_Key.f k h rows r cols = some (keyR rows r cols) := by
  unfold tartanref11_Key.f
  exact rkey_l0 h rows r cols hc cols.length k 0 (by omega) hk
theorem gkey_some {h : List ByteArray} {rows : List (List ByteArray)} {r : Int} {cols : List Int} (hc : cols.length ≤ 1000000) {k : Nat} (hk : cols.length < k) : index_Key.f k h rows r cols = some (keyR rows r cols) := by
  unfold index_Key.f
  exact key_l0 h rows r cols hc cols.length k 0 (by omega) hk
theorem rcmp_l0 (a b : List ByteArray) (ha : a.length ≤ 1000000) (hb : b.length ≤ 1000000) : ∀ (d k i : Nat), i + d = a.length → i ≤ b.length → 2 * d + 1 < k → tartanref12_Compare.l0 k a b (i : Nat) = some (cmpS (a.drop i) (b.drop i)) := by
  intro d
  induction d with
  | zero =>
    intro k i hi hib hk
    obtain ⟨k, rfl⟩ : ∃ m, k = m + 2 := ⟨k - 2, by omega⟩
    simp only [tartanref12_Compare.l0]
    rw [if_neg (by omega)]
    simp only [tartanref12_Compare.j1]
    rw [if_neg (by decide), cmpS_nil _ _ (.inl (List.drop_eq_nil_of_le (by omega))), ← cmpI_len (a := a.length) (b := b.length) i (by rw [List.length_drop]; omega) (by rw [List.length_drop]; omega)]
    unfold cmpI
    split
    · rfl
    · split <;> rfl
  | succ d ih =>
    intro k i hi hib hk
    obtain ⟨k, rfl⟩ : ∃ m, k = m + 2 := ⟨k - 2, by omega⟩
    simp only [tartanref12_Compare.l0]
    rw [if_pos (by omega)]
    by_cases h : i < b.length
    · rw [decide_eq_true (by omega)]
      simp only [tartanref12_Compare.j1]
      rw [if_pos trivial, if_pos (by omega), if_pos (by omega), if_pos (by omega), wrap_upK _ (by omega), ih k (i + 1) (by omega) (by omega) (by omega), dropB (l := a) (t := i) (by omega), dropB (l := b) (t := i) (by omega)]
      simp only [cmpS]
      unfold cmp1
      generalize rdOf ByteArray.empty a (i : Int) = x
      generalize rdOf ByteArray.empty b (i : Int) = y
      by_cases h1 : Op.bytesLess x.toList y.toList = true
      · rw [if_pos h1, if_pos h1]; rfl
      · rw [if_neg h1, if_neg h1]
        by_cases h2 : Op.bytesLess y.toList x.toList = true
        · rw [if_pos h2, if_pos h2]; rfl
        · rw [if_neg h2, if_neg h2]; rfl
    · rw [decide_eq_false (by omega)]
      simp only [tartanref12_Compare.j1]
      rw [if_neg (by decide), cmpS_nil _ _ (.inr (List.drop_eq_nil_of_le (by omega))), ← cmpI_len (a := a.length) (b := b.length) i (by rw [List.length_drop]; omega) (by rw [List.length_drop]; omega)]
      unfold cmpI
      split
      · rfl
      · split <;> rfl
theorem rcmp_some {a b : List ByteArray} (ha : a.length ≤ 1000000) (hb : b.length ≤ 1000000) {k : Nat} (hk : 2 * a.length + 1 < k) : tartanref12_Compare.f k a b = some (cmpS a b) := by
  unfold tartanref12_Compare.f
  exact rcmp_l0 a b ha hb a.length k 0 (by omega) (by omega) hk
theorem gcmp_some {a b : List ByteArray} (ha : a.length ≤ 1000000) (hb : b.length ≤ 1000000) {k : Nat} (hk : a.length < k) : index_Compare.f k a b = some (cmpS a b) := by
  unfold index_Compare.f index_rows_string.f
  have h := rows_l0 a b ha hb (min a.length b.length) k 0 (by omega) (by omega)
  rw [List.drop_zero, List.drop_zero] at h
  have h' : index_rows_string.l0 k a b (mn (a.length : Int) (b.length : Int)) 0 = some (cmpS a b) := h
  rw [h']; rfl
theorem rints_l0 (a b : List Int) (hab : a.length = b.length) (ha : a.length ≤ 1000000) : ∀ (d k i : Nat), i + d = a.length → d < k → tartanref06_Ints.l0 k a b (i : Nat) = some (decide (a.drop i = b.drop i)) := by
  intro d
  induction d with
  | zero =>
    intro k i hi hk
    obtain ⟨k, rfl⟩ : ∃ m, k = m + 1 := ⟨k - 1, by omega⟩
    simp only [tartanref06_Ints.l0]
    rw [if_neg (by omega), List.drop_eq_nil_of_le (by omega), List.drop_eq_nil_of_le (by omega)]; simp
  | succ d ih =>
    intro k i hi hk
    obtain ⟨k, rfl⟩ : ∃ m, k = m + 1 := ⟨k - 1, by omega⟩
    have ih' := ih k (i + 1) (by omega) (by omega)
    simp only [tartanref06_Ints.l0]
    rw [if_pos (by omega), if_pos (by omega), if_pos (by omega), wrap_upK _ (by omega), ih', dropK (l := a) (t := i) (by omega), dropK (l := b) (t := i) (by omega)]
    by_cases e : rd a (i : Int) = rd b (i : Int)
    · rw [if_pos e]; simp [e]
    · rw [if_neg e]; simp [e]
theorem rints_some {a b : List Int} (ha : a.length ≤ 1000000) {k : Nat} (hk : a.length < k) : tartanref06_Ints.f k a b = some (decide (a = b)) := by
  unfold tartanref06_Ints.f
  by_cases e : a.length = b.length
  · rw [if_pos (by omega)]
    exact rints_l0 a b e ha a.length k 0 (by omega) hk
  · rw [if_neg (by omega), decide_eq_false]
    rintro rfl; exact e rfl
theorem rrow_l0 (a b : List ByteArray) (hab : a.length = b.length) (ha : a.length ≤ 1000000) : ∀ (d k i : Nat), i + d = a.length → d < k → tartanref03_Row.l0 k a b (i : Nat) = some (decide (a.drop i = b.drop i)) := by
  intro d
  induction d with
  | zero =>
    intro k i hi hk
    obtain ⟨k, rfl⟩ : ∃ m, k = m + 1 := ⟨k - 1, by omega⟩
    simp only [tartanref03_Row.l0]
    rw [if_neg (by omega), List.drop_eq_nil_of_le (by omega), List.drop_eq_nil_of_le (by omega)]; simp
  | succ d ih =>
    intro k i hi hk
    obtain ⟨k, rfl⟩ : ∃ m, k = m + 1 := ⟨k - 1, by omega⟩
    have ih' := ih k (i + 1) (by omega) (by omega)
    simp only [tartanref03_Row.l0]
    rw [if_pos (by omega), if_pos (by omega), if_pos (by omega), wrap_upK _ (by omega), ih', dropB (l := a) (t := i) (by omega), dropB (l := b) (t := i) (by omega)]
    by_cases e : rdOf ByteArray.empty a (i : Int) = rdOf ByteArray.empty b (i : Int)
    · rw [if_pos (by rw [e])]; simp [e]
    · rw [if_neg (fun h => e (bstr_eq.1 h))]; simp [e]
theorem rrow_some {a b : List ByteArray} (ha : a.length ≤ 1000000) {k : Nat} (hk : a.length < k) : tartanref03_Row.f k a b = some (decide (a = b)) := by
  unfold tartanref03_Row.f
  by_cases e : a.length = b.length
  · rw [if_pos (by omega)]
    exact rrow_l0 a b e ha a.length k 0 (by omega) hk
  · rw [if_neg (by omega), decide_eq_false]
    rintro rfl; exact e rfl

/-! Rows in order: one after the other is put in. -/
theorem mem_rngI {n : Nat} {x : Int} : x ∈ rngI n ↔ 0 ≤ x ∧ x < (n : Int) := by
  unfold rngI
  simp only [List.mem_map, List.mem_range]
  constructor
  · rintro ⟨i, hi, rfl⟩; omega
  · rintro ⟨h1, h2⟩; exact ⟨x.toNat, by omega, by omega⟩
theorem rd_getI {l : List Int} {i : Nat} (h : i < l.length) : rd l (i : Int) = l[i] := by
  unfold rd; rw [show ((i : Int)).toNat = i from rfl, List.getD_eq_getElem?_getD, List.getElem?_eq_getElem h]; rfl
theorem rd_memK {l : List Int} {i : Nat} (h : i < l.length) : rd l (i : Int) ∈ l := by rw [rd_getI h]; exact List.getElem_mem h
section
variable (rows : List (List ByteArray)) (cols : List Int)
theorem sortB_perm (l : List Int) : (sortB rows cols l).Perm l := GIns.perm_isort _ _
theorem sortB_sorted (l : List Int) : (sortB rows cols l).Pairwise (fun a b => leB rows cols a b = true) := GIns.sort_isort _ (leB_tot rows cols) (leB_trans rows cols) l
theorem sortB_uniq {l l' : List Int} (hp : l'.Perm l) (hs : l'.Pairwise (fun a b => leB rows cols a b = true)) : sortB rows cols l = l' :=
  GIns.sorted_unique _ (leB_anti rows cols) _ _ ((sortB_perm rows cols l).trans hp.symm) (sortB_sorted rows cols l) hs
abbrev kc (a b : Int) : Int := cmpS (keyR rows a cols) (keyR rows b cols)
theorem leB_iff {a b : Int} : leB rows cols a b = true ↔ kc rows cols a b < 0 ∨ kc rows cols a b = 0 ∧ a ≤ b := by
  unfold leB
  rw [Bool.not_eq_true', decide_eq_false_iff_not]
  unfold Bef kc
  have := cmpS_neg (keyR rows a cols) (keyR rows b cols)
  omega
/-- Where the next one is put. -/
structure PutAt (out : List Int) (i : Int) (j kk : Nat) : Prop where
  le : kk ≤ j
  lo : kk = 0 ∨ kc rows cols (rd out ((kk - 1 : Nat) : Int)) i ≤ 0
  hi : ∀ t, kk ≤ t → t < j → 0 < kc rows cols (rd out (t : Int)) i
theorem put_next {out : List Int} {i : Int} (n : Nat) (hi : i = (n : Int)) (ho : out = sortB rows cols (rngI n)) {kk : Nat} (h : PutAt rows cols out i out.length kk) : out.take kk ++ [i] ++ out.drop kk = sortB rows cols (rngI (n + 1)) := by
  have hp : out.Perm (rngI n) := ho ▸ sortB_perm rows cols _
  have hs : out.Pairwise (fun a b => leB rows cols a b = true) := ho ▸ sortB_sorted rows cols _
  have hmem : ∀ x ∈ out, x < i := fun x hx => by have := (mem_rngI.1 (hp.mem_iff.1 hx)).2; omega
  have h1 : ∀ x ∈ out.take kk, leB rows cols x i = true := by
    intro x hx
    obtain ⟨t, ht, rfl⟩ := List.getElem_of_mem hx
    have ht' : t < kk ∧ t < out.length := by rw [List.length_take] at ht; omega
    rw [List.getElem_take]
    have h2 := hmem _ (List.getElem_mem ht'.2)
    refine (leB_iff rows cols).2 ?_
    have hk : kc rows cols out[t] i ≤ 0 := by
      rcases h.lo with h3 | h3
      · omega
      · have hle := h.le
        rw [rd_getI (by omega)] at h3
        rcases Nat.lt_or_ge t (kk - 1) with h4 | h4
        · have h5 := (leB_iff rows cols).1 (List.pairwise_iff_getElem.1 hs t (kk - 1) ht'.2 (by omega) h4)
          exact cmpS_le _ _ _ (by unfold kc at h5; omega) h3
        · have e : t = kk - 1 := by omega
          subst e; exact h3
    omega
  have h2 : ∀ x ∈ out.drop kk, leB rows cols i x = true := by
    intro x hx
    obtain ⟨t, ht, rfl⟩ := List.getElem_of_mem hx
    rw [List.getElem_drop]
    rw [List.length_drop] at ht
    have h3 := h.hi (kk + t) (by omega) (by omega)
    rw [rd_getI (by omega)] at h3
    refine (leB_iff rows cols).2 (.inl ?_)
    unfold kc at h3 ⊢
    have := cmpS_neg (keyR rows out[kk + t] cols) (keyR rows i cols)
    omega
  refine (sortB_uniq rows cols ?_ ?_).symm
  · rw [rngI_succ, ← hi]
    have e : out = out.take kk ++ out.drop kk := (List.take_append_drop kk out).symm
    refine List.Perm.trans ?_ (hp.append_right [i])
    rw [List.append_assoc]
    conv => rhs; rw [e]
    rw [List.append_assoc]
    exact List.Perm.append_left _ List.perm_append_comm
  · refine List.pairwise_append.2 ⟨List.pairwise_append.2 ⟨hs.sublist (List.take_sublist _ _), List.pairwise_singleton _ _, fun x hx y hy => ?_⟩, hs.sublist (List.drop_sublist _ _), fun x hx y hy => ?_⟩
    · simp only [List.mem_singleton] at hy; subst hy; exact h1 x hx
    · rcases List.mem_append.1 hx with hx | hx
      · exact leB_trans rows cols _ _ _ (h1 x hx) (h2 y hy)
      · simp only [List.mem_singleton] at hx; subst hx; exact h2 y hy
end
theorem rbuild_l1 (h : List ByteArray) (rows : List (List ByteArray)) (cols : List Int) (hr : rows.length ≤ 1000) (hc : cols.length ≤ 1000) (n : Nat) (hn : n < rows.length) (out : List Int) (ho : out = sortB rows cols (rngI n)) (F : Nat) (r : Option (List Int))
    (H : ∀ k', F ≤ k' → tartanref12_Build.l0 k' cols (sortB rows cols (rngI (n + 1))) (wrap64 ((n : Int) + 1)) h rows = r) :
    ∀ (d k j kk : Nat), j + d = out.length → d + F + 3000 ≤ k → PutAt rows cols out (n : Int) j kk → tartanref12_Build.l1 k cols out (n : Nat) (kk : Nat) (j : Nat) h rows = r := by
  have hlen : out.length = n := by rw [ho, sortB_len, rngI_len]
  intro d
  induction d with
  | zero =>
    intro k j kk hj hk hP
    obtain ⟨k, rfl⟩ : ∃ m, k = m + 1 := ⟨k - 1, by omega⟩
    obtain rfl : j = out.length := by omega
    have hle := hP.le
    have hN := put_next rows cols n rfl ho hP
    simp only [tartanref12_Build.l1]
    rw [if_neg (by omega), Option.bind_some, if_pos (by omega), if_pos (by omega), Option.bind_some]
    rw [show ((kk : Nat) : Int).toNat = kk from rfl]
    rw [if_pos (by rw [List.length_take]; simp; omega), Option.bind_some, if_pos (by rw [List.nil_append, List.length_take]; omega), Option.bind_some, Option.bind_some, if_pos (by rw [List.length_append, List.nil_append, List.length_take, List.length_drop, List.length_singleton]; omega)]
    rw [List.nil_append, hN]
    exact H k (by omega)
  | succ d ih =>
    intro k j kk hj hk hP
    obtain ⟨k, rfl⟩ : ∃ m, k = m + 1 := ⟨k - 1, by omega⟩
    simp only [tartanref12_Build.l1]
    rw [if_pos (by omega), if_pos (by omega), rkey_some (by omega) (by omega), Option.bind_some, rkey_some (by omega) (by omega), Option.bind_some, rcmp_some (by rw [keyR_len]; omega) (by rw [keyR_len]; omega) (by rw [keyR_len]; omega), Option.bind_some, wrap_upK _ (by omega)]
    by_cases c : cmpS (keyR rows (rd out (j : Int)) cols) (keyR rows (n : Int) cols) ≤ 0
    · rw [if_pos c]
      exact ih k (j + 1) (j + 1) (by omega) (by omega) ⟨Nat.le_refl _, .inr c, fun t h1 h2 => by omega⟩
    · rw [if_neg c]
      refine ih k (j + 1) kk (by omega) (by omega) ⟨by have := hP.le; omega, hP.lo, fun t h1 h2 => ?_⟩
      rcases Nat.lt_or_ge t j with h3 | h3
      · exact hP.hi t h1 h3
      · obtain rfl : t = j := by omega
        unfold kc; omega
theorem rbuild_l0 (h : List ByteArray) (rows : List (List ByteArray)) (cols : List Int) (hr : rows.length ≤ 1000) (hc : cols.length ≤ 1000) : ∀ (d k i : Nat), i + d = rows.length → d * 5000 + 1 ≤ k → tartanref12_Build.l0 k cols (sortB rows cols (rngI i)) (i : Nat) h rows = some (buildR rows cols) := by
  intro d
  induction d with
  | zero =>
    intro k i hi hk
    obtain ⟨k, rfl⟩ : ∃ m, k = m + 1 := ⟨k - 1, by omega⟩
    obtain rfl : i = rows.length := by omega
    simp only [tartanref12_Build.l0]
    rw [if_neg (by omega)]; rfl
  | succ d ih =>
    intro k i hi hk
    obtain ⟨k, rfl⟩ : ∃ m, k = m + 1 := ⟨k - 1, by omega⟩
    have hlen : (sortB rows cols (rngI i)).length = i := by rw [sortB_len, rngI_len]
    simp only [tartanref12_Build.l0]
    rw [if_pos (by omega)]
    refine rbuild_l1 h rows cols hr hc i (by omega) _ rfl (d * 5000 + 1) _ (fun k' hk' => ?_) i k 0 0 (by omega) (by omega) ⟨Nat.le_refl _, .inl rfl, fun t h1 h2 => by omega⟩
    rw [wrap_upK _ (by omega)]
    exact ih k' (i + 1) (by omega) hk'
theorem rbuild_some {h : List ByteArray} {rows : List (List ByteArray)} {cols : List Int} (hr : rows.length ≤ 100) (hc : cols.length ≤ 1000) {k : Nat} (hk : 600000 ≤ k) : tartanref12_Build.f k h rows cols = some (buildR rows cols) := by
  unfold tartanref12_Build.f
  exact rbuild_l0 h rows cols (by omega) hc rows.length k 0 (by omega) (by omega)
theorem build_some {h : List ByteArray} {rows : List (List ByteArray)} {cols : List Int} (hr : rows.length ≤ 100) (hc : cols.length ≤ 1000) : index_Build.f h rows cols = some (buildR rows cols) := by
  unfold index_Build.f; rw [if_pos ⟨by omega, by omega⟩]
theorem find_some {h : List ByteArray} {rows : List (List ByteArray)} {cols order : List Int} {key : List ByteArray} (hc : cols.length ≤ 1000) (ho : order.length ≤ 1000) (hk : key.length ≤ 1000) : index_Find.f h rows cols order key = some (findR rows cols order key) := by
  unfold index_Find.f; rw [if_pos ⟨by omega, by omega, by omega⟩]
theorem buildR_len (rows : List (List ByteArray)) (cols : List Int) : (buildR rows cols).length = rows.length := by unfold buildR; rw [sortB_len, rngI_len]
theorem works12 : ∀ k, tartanlaw12_works.f (k + 60) = some true := by intro k; kernel_rfl
theorem fuel12 : ∃ k : Nat, 2000000 ≤ k := ⟨2000000, Nat.le_refl _⟩
/-- Few: what is looked at. -/
theorem few12 (h : List ByteArray) (rows : List (List ByteArray)) (cols : List Int) {k : Nat} (hk : 10000 ≤ k) : ∃ b, tartanlaw12_few.f k h rows cols = some b ∧ (b = true → rows.length ≤ 40 ∧ cols.length ≤ 12) := by
  unfold tartanlaw12_few.f
  obtain ⟨b, e, hb⟩ := few4_some h rows hk
  rw [e, Option.bind_some]
  cases b with
  | false => rw [if_neg (by decide)]; exact ⟨false, rfl, fun h => by cases h⟩
  | true =>
    rw [if_pos rfl]
    by_cases h3 : (rows.length : Int) ≤ 40
    · rw [if_pos h3]
      exact ⟨_, rfl, fun h => ⟨by omega, by have := of_decide_eq_true h; omega⟩⟩
    · rw [if_neg h3]; exact ⟨false, rfl, fun h => by cases h⟩

/-! Where a key is found. -/
theorem bisL_spec (p : Nat → Bool) (n : Nat) (hm : ∀ a b, a ≤ b → b < n → p b = true → p a = true) : ∀ (d lo hi : Nat), hi - lo ≤ d → lo ≤ hi → hi ≤ n → (∀ a, a < lo → p a = true) → (∀ a, hi ≤ a → a < n → p a = false) →
    bisL p lo hi ≤ n ∧ (∀ a, a < bisL p lo hi → p a = true) ∧ (∀ a, bisL p lo hi ≤ a → a < n → p a = false) := by
  intro d
  induction d with
  | zero =>
    intro lo hi h1 h2 h3 h4 h5
    rw [bisL_end (by omega)]
    exact ⟨by omega, h4, fun a h6 h7 => h5 a (by omega) h7⟩
  | succ d ih =>
    intro lo hi h1 h2 h3 h4 h5
    by_cases hlt : lo < hi
    · by_cases hp : p (lo + (hi - lo) / 2) = true
      · rw [bisL_lo hlt hp]
        exact ih _ _ (by omega) (by omega) h3 (fun a ha => hm a (lo + (hi - lo) / 2) (by omega) (by omega) hp) h5
      · rw [bisL_hi hlt hp]
        refine ih _ _ (by omega) (by omega) (by omega) h4 (fun a ha1 ha2 => ?_)
        cases hq : p a with
        | false => rfl
        | true => exact absurd (hm _ a ha1 ha2 hq) hp
    · rw [bisL_end hlt]
      exact ⟨by omega, h4, fun a h6 h7 => h5 a (by omega) h7⟩
section
variable (rows : List (List ByteArray)) (cols : List Int) (key : List ByteArray)
theorem build_mem {x : Int} : x ∈ buildR rows cols ↔ 0 ≤ x ∧ x < (rows.length : Int) := by
  rw [← mem_rngI]; exact (sortB_perm rows cols _).mem_iff
theorem build_le {a b : Nat} (h : a < b) (hb : b < rows.length) : leB rows cols (rd (buildR rows cols) (a : Int)) (rd (buildR rows cols) (b : Int)) = true := by
  have hl := buildR_len rows cols
  rw [rd_getI (by omega), rd_getI (by omega)]
  exact List.pairwise_iff_getElem.1 (sortB_sorted rows cols _) a b (by show a < (buildR rows cols).length; omega) (by show b < (buildR rows cols).length; omega) h
theorem low_spec : lowR rows cols (buildR rows cols) key ≤ rows.length ∧ (∀ a, a < lowR rows cols (buildR rows cols) key → cmpS (keyR rows (rd (buildR rows cols) (a : Int)) cols) key < 0) ∧
    (∀ a, lowR rows cols (buildR rows cols) key ≤ a → a < rows.length → 0 ≤ cmpS (keyR rows (rd (buildR rows cols) (a : Int)) cols) key) := by
  have hl := buildR_len rows cols
  have h := bisL_spec (lowP rows cols (buildR rows cols) key) rows.length (fun a b hab hb hp => by
    rcases Nat.lt_or_eq_of_le hab with h1 | rfl
    · have h2 := (leB_iff rows cols).1 (build_le rows cols h1 hb)
      unfold lowP at hp ⊢
      exact decide_eq_true (cmpS_tr' _ _ _ (by unfold kc at h2; omega) (of_decide_eq_true hp))
    · exact hp) rows.length 0 rows.length (by omega) (by omega) (Nat.le_refl _) (fun a h => by omega) (fun a h1 h2 => by omega)
  unfold lowR
  rw [hl]
  refine ⟨h.1, fun a ha => of_decide_eq_true (h.2.1 a ha), fun a h1 h2 => ?_⟩
  have := of_decide_eq_false (h.2.2 a h1 h2)
  omega
/-- The first row of a key. -/
theorem find_first (r : Int) (h0 : 0 ≤ r) (hr : r < (rows.length : Int)) (hk : cmpS (keyR rows r cols) key = 0) (hmin : ∀ q, 0 ≤ q → q < r → cmpS (keyR rows q cols) key ≠ 0) : findR rows cols (buildR rows cols) key = (r, true) := by
  have hl := buildR_len rows cols
  obtain ⟨s1, s2, s3⟩ := low_spec rows cols key
  obtain ⟨t, ht, et⟩ := List.getElem_of_mem ((build_mem rows cols).2 ⟨h0, hr⟩)
  have et' : rd (buildR rows cols) (t : Int) = r := by rw [rd_getI ht]; exact et
  have hL : lowR rows cols (buildR rows cols) key ≤ t := by
    rcases Nat.lt_or_ge t (lowR rows cols (buildR rows cols) key) with h | h
    · have := s2 t h; rw [et'] at this; omega
    · exact h
  have hLt : lowR rows cols (buildR rows cols) key < rows.length := by omega
  have g1 := s3 _ (Nat.le_refl _) hLt
  have hmem := (build_mem rows cols).1 (rd_memK (l := buildR rows cols) (i := lowR rows cols (buildR rows cols) key) (by omega))
  have g2 : cmpS (keyR rows (rd (buildR rows cols) (lowR rows cols (buildR rows cols) key : Int)) cols) key = 0 ∧ rd (buildR rows cols) (lowR rows cols (buildR rows cols) key : Int) ≤ r := by
    rcases Nat.lt_or_eq_of_le hL with h | h
    · have h2 := (leB_iff rows cols).1 (build_le rows cols h (by omega))
      rw [et'] at h2
      unfold kc at h2
      have h3 : cmpS (keyR rows (rd (buildR rows cols) (lowR rows cols (buildR rows cols) key : Int)) cols) key = cmpS (keyR rows (rd (buildR rows cols) (lowR rows cols (buildR rows cols) key : Int)) cols) (keyR rows r cols) := by rw [cmpS_eq.1 hk]
      omega
    · rw [h, et']; exact ⟨hk, Int.le_refl _⟩
  unfold findR
  rw [if_pos ⟨by omega, g2.1⟩]
  have e : rd (buildR rows cols) (lowR rows cols (buildR rows cols) key : Int) = r := by
    rcases Int.lt_or_eq_of_le g2.2 with h | h
    · exact absurd g2.1 (hmin _ hmem.1 h)
    · exact h
  rw [e]
theorem find_none (hno : ∀ q, 0 ≤ q → q < (rows.length : Int) → cmpS (keyR rows q cols) key ≠ 0) : findR rows cols (buildR rows cols) key = (0, false) := by
  have hl := buildR_len rows cols
  unfold findR
  rw [if_neg]
  rintro ⟨h1, h2⟩
  have hmem := (build_mem rows cols).1 (rd_memK (l := buildR rows cols) (i := lowR rows cols (buildR rows cols) key) h1)
  exact hno _ hmem.1 hmem.2 h2
theorem find_key (order : List Int) : ((findR rows cols order key).2 = true → cmpS (keyR rows (findR rows cols order key).1 cols) key = 0) ∧ ((findR rows cols order key).2 = false → (findR rows cols order key).1 = 0) := by
  unfold findR
  split
  · rename_i h; exact ⟨fun _ => h.2, fun h => by cases h⟩
  · exact ⟨(fun h => by cases h), fun _ => rfl⟩
end
theorem rfind_l0 (h : List ByteArray) (rows : List (List ByteArray)) (cols : List Int) (key : List ByteArray) (hr : rows.length ≤ 1000) (hc : cols.length ≤ 1000) (hk : key.length ≤ 1000) : ∀ (d k i : Nat), i + d = rows.length → d + 3000 < k → (∀ q : Int, 0 ≤ q → q < (i : Int) → cmpS (keyR rows q cols) key ≠ 0) →
    tartanref12_Find.l0 k cols key (i : Nat) h rows = some (findR rows cols (buildR rows cols) key) := by
  intro d
  induction d with
  | zero =>
    intro k i hi hkk hno
    obtain ⟨k, rfl⟩ : ∃ m, k = m + 1 := ⟨k - 1, by omega⟩
    simp only [tartanref12_Find.l0]
    rw [if_neg (by omega), find_none rows cols key (fun q h1 h2 => hno q h1 (by omega))]
  | succ d ih =>
    intro k i hi hkk hno
    obtain ⟨k, rfl⟩ : ∃ m, k = m + 1 := ⟨k - 1, by omega⟩
    simp only [tartanref12_Find.l0]
    rw [if_pos (by omega), rkey_some (by omega) (by omega), Option.bind_some, rcmp_some (by rw [keyR_len]; omega) (by omega) (by rw [keyR_len]; omega), Option.bind_some]
    by_cases c : cmpS (keyR rows (i : Int) cols) key = 0
    · rw [if_pos c, find_first rows cols key (i : Int) (by omega) (by omega) c hno]
    · rw [if_neg c, wrap_upK _ (by omega)]
      refine ih k (i + 1) (by omega) (by omega) (fun q h1 h2 => ?_)
      rcases Int.lt_or_eq_of_le (show q ≤ (i : Int) by omega) with h3 | rfl
      · exact hno q h1 h3
      · exact c
theorem rfind_some {h : List ByteArray} {rows : List (List ByteArray)} {cols : List Int} {key : List ByteArray} (hr : rows.length ≤ 1000) (hc : cols.length ≤ 1000) (hk : key.length ≤ 1000) {k : Nat} (hkk : 5000 ≤ k) : tartanref12_Find.f k h rows cols key = some (findR rows cols (buildR rows cols) key) := by
  unfold tartanref12_Find.f
  exact rfind_l0 h rows cols key hr hc hk rows.length k 0 (by omega) (by omega) (fun q h1 h2 => by omega)
end Go.Proofs.Ytchpgkojlhipgaa.X
end
section
/- IndexOwn: plain. -/
namespace Go.Proofs.Ytchpgkojlhipgaa.X
open Go.RowKit Go.Proofs.YtchpgkojlhipgaaW.PrintWords
set_option linter.unusedVariables false
theorem least {P : Nat → Prop} : ∀ r, P r → ∃ m, m ≤ r ∧ P m ∧ ∀ q, q < m → ¬ P q := by
  intro r
  induction r using Nat.strongRecOn with
  | _ r ih =>
    intro hp
    by_cases h : ∃ q, q < r ∧ P q
    · obtain ⟨q, hq, hpq⟩ := h
      obtain ⟨m, h1, h2⟩ := ih q hq hpq
      exact ⟨m, by omega, h2⟩
    · exact ⟨r, Nat.le_refl _, hp, fun q hq hpq => h ⟨q, hq, hpq⟩⟩
/-- A row's key is found: at the first row that has it. -/
theorem find_own (rows : List (List ByteArray)) (cols : List Int) (r : Nat) (hr : r < rows.length) : ∃ m : Nat, m ≤ r ∧ findR rows cols (buildR rows cols) (keyR rows (r : Int) cols) = ((m : Int), true) ∧ keyR rows (m : Int) cols = keyR rows (r : Int) cols := by
  obtain ⟨m, hm, he, hmin⟩ := least (P := fun m : Nat => keyR rows (m : Int) cols = keyR rows (r : Int) cols) r rfl
  refine ⟨m, hm, find_first rows cols _ (m : Int) (by omega) (by omega) (cmpS_eq.2 he) (fun q h0 h1 hq => ?_), he⟩
  have e : q = ((q.toNat : Nat) : Int) := by omega
  rw [e] at hq
  exact hmin q.toNat (by omega) (cmpS_eq.1 hq)
theorem own_twice (hd : List ByteArray) (rows : List (List ByteArray)) (cols : List Int) (m r : Nat) (h : m < r) (hr : r < rows.length) (he : keyR rows (m : Int) cols = keyR rows (r : Int) cols) : uniqR hd rows cols = false := by
  unfold uniqR
  by_cases hc : cols = []
  · subst hc; simp
  · rw [decide_eq_false (p := (groupsR (cellR rows) rows.length cols).length = 0), Bool.and_false]
    intro h0
    obtain ⟨c, hcm, hne⟩ := (groups_nil (cellR rows) hc).1 (List.eq_nil_of_length_eq_zero h0) (m : Int) (r : Int) (by omega) (by omega) (by omega) (by omega) (by omega)
    unfold keyR at he
    exact hne (List.map_inj_left.1 he c hcm).symm
theorem pure_IndexOwn : ∀ (x0 : S41) (x1 : List Int) (x2 : Int), okT41 x0 → okT42 x1 → okT3 x2 → ∃ k, tartanlaw12_IndexOwn.f k x0.f0 x0.f1 x1 x2 = some true := by
  intro x0 x1 x2 o0 o1 o2
  obtain ⟨k, hk⟩ := fuel12
  refine ⟨k + 60, ?_⟩
  unfold tartanlaw12_IndexOwn.f
  rw [works12, Option.bind_some, if_pos rfl]
  obtain ⟨b, e, hb⟩ := few12 x0.f0 x0.f1 x1 (k := k + 60) (by omega)
  rw [e, Option.bind_some]
  cases b with
  | false => rw [if_neg (by decide)]; simp [tartanlaw12_IndexOwn.j0]
  | true =>
    obtain ⟨h1, h2⟩ := hb rfl
    rw [if_pos rfl]
    by_cases h3 : x2 < 0
    · rw [if_pos h3]; simp [tartanlaw12_IndexOwn.j0]
    · rw [if_neg h3]
      by_cases h4 : x2 ≥ (x0.f1.length : Int)
      · rw [decide_eq_true h4]; simp [tartanlaw12_IndexOwn.j0]
      · rw [decide_eq_false h4]
        simp only [tartanlaw12_IndexOwn.j0]
        obtain ⟨r, rfl⟩ : ∃ r : Nat, x2 = r := ⟨x2.toNat, by omega⟩
        obtain ⟨m, hm, hf, hk2⟩ := find_own x0.f1 x1 r (by omega)
        have hU : okU x0.f1 x1 = true := by
          unfold okU
          rw [decide_eq_true (by omega), decide_eq_true (by omega), Bool.true_and, Bool.true_and, List.all_eq_true]
          intro y hy
          rw [List.all_eq_true]
          intro s hs
          exact decide_eq_true ((o0.2.2 y hy).2 s hs)
        rw [if_neg (by decide), build_some (by omega) (by omega), Option.bind_some, gkey_some (by omega) (by omega), Option.bind_some, find_some (by omega) (by rw [buildR_len]; omega) (by rw [keyR_len]; omega), Option.bind_some, hf]
        dsimp only
        rw [if_pos rfl, if_neg (by omega), gkey_some (by omega) (by omega), Option.bind_some, Option.bind_some, gcmp_some (by rw [keyR_len]; omega) (by rw [keyR_len]; omega) (by rw [keyR_len]; omega), Option.bind_some, hk2, if_pos (cmpS_eq.2 rfl), if_pos trivial]
        by_cases h5 : (m : Int) = (r : Int)
        · rw [if_pos h5]
        · rw [if_neg h5]
          unfold keys_Unique.f
          rw [if_pos hU, Option.bind_some, own_twice x0.f0 x0.f1 x1 m r (by omega) (by omega) hk2]; rfl
end Go.Proofs.Ytchpgkojlhipgaa.X
end
section
/- IndexOwn: for every input the law returns true, and its arguments read as they did. -/
namespace Go.Proofs.Ytchpgkojlhipgaa.indexOwn
open Go.ChangeShapes Go.WideShapes Go.ChangeAt Go.RowKit Go.Proofs.Ytchpgkojlhipgaa.X Go.Proofs.Ytchpgkojlhipgaa.GOpen Go.Proofs.YtchpgkojlhipgaaW.PrintWords
open Go.ChangeMaps (open_string shut_string)
set_option linter.unusedVariables false
set_option maxRecDepth 100000 in
theorem lifted (os : Os) (started : os.Started) (H : Type) (enc : TypeId × Value → H) :
    ReturnsInHanded {} Try.checked os 13 .any (Rows.indexOwnSpec.pre6 enc Try.prog Try.f13 Rows.indexOwnRow.domain false) (Rows.indexOwnSpec.post enc Try.prog Try.f13 false true false false) := by
  refine returnsInHanded_of_change (C := Try.checked) own started (by kernel_rfl) Try.func13
    (ChangeSpec.witness6 (enc := enc) (C := Try.checked) false ⟨#[], #[.agg #[.slice none 0 0, .slice none 0 0], .slice none 0 0, .int .i64 0], []⟩ 8 (by kernel_rfl) (by kernel_rfl) (by kernel_rfl) (by kernel_rfl)) ?_
  intro W base args ds gs before hval0 hW hcnd _
  have hval : ∀ (j : Nat) t v, Try.f13.params[j]? = some t → args[j]? = some v → Value.okWide Try.prog W .any base t v := hval0
  have hW' := hW
  obtain ⟨p, q, hA0, hV, rfl, hfz, hnd⟩ := hW
  have hA : DataW.TrodAll enc Try.prog W 0 (fun _ => true) true Try.f13.params.toList args.toList ds p := hA0
  rw [Try.params13] at hA hval
  obtain ⟨v0, vs0, d0, ds0, p0, q0, hargs, rfl, rfl, h0, r0⟩ := trodAll_cons hA
  obtain ⟨v1, vs1, d1, ds1, p1, q1, rfl, rfl, rfl, h1, r1⟩ := trodAll_cons r0
  obtain ⟨v2, vs2, d2, ds2, p2, q2, rfl, rfl, rfl, h2, r2⟩ := trodAll_cons r1
  obtain ⟨rfl, rfl, rfl⟩ := trodAll_nil r2
  obtain rfl : args = #[v0, v1, v2] := by cases args; simp_all
  obtain ⟨rfl, rfl⟩ := trodVars_none hV
  have k0 := h0
  have lt0 : ∀ x ∈ p0, x.block < W.heap.size := by obtain ⟨m, hm⟩ := k0; exact DataW.trod_lt m _ _ _ hm
  obtain ⟨x0, cs0, rfl, K0, o0⟩ := arg_struct opens41 Try.underlying41 (hval 0 41 v0 rfl rfl) h0
  obtain ⟨A0_0, c0_0, A0_1, c0_1, e0, hc0_0, hC0_0, hc0_1, hC0_1⟩ := k41_open K0
  obtain rfl : cs0 = #[.slice A0_0 x0.f0.length c0_0, .slice A0_1 x0.f1.length c0_1] := by cases cs0; simpa using e0
  have k1 := h1
  have lt1 : ∀ x ∈ p1, x.block < W.heap.size := by obtain ⟨m, hm⟩ := k1; exact DataW.trod_lt m _ _ _ hm
  obtain ⟨A1, c1, x1, rfl, hc1, hC1, o1⟩ := arg_slice (Opens.slice (Opens.int Try.underlying3) Try.underlying42 (by kernel_rfl)) Try.underlying42 (hval 1 42 v1 rfl rfl) h1
  obtain ⟨x2, rfl, rfl, rfl, w2⟩ := open_int Try.underlying3 (hval 2 3 v2 rfl rfl) h2
  clear hA0 hval0
  obtain ⟨k, hp⟩ := pure_IndexOwn x0 x1 x2 o0 o1 w2
  refine (tartanlaw12_IndexOwn.calls k A0_0 c0_0 x0.f0 A0_1 c0_1 x0.f1 A1 c1 x1 x2 true W hC0_0 hc0_0 hC0_1 hc0_1 hC1 hc1 hp).mono fun e W' ⟨he, bel0⟩ => ?_
  have bel : Below W.heap.size W W' := bel0
  subst he
  exact ⟨_, rfl, _, _, _, [], _, [], hW', trodAll_mk1 (shut_bool Try.underlying4 _), (trodAll_cons_mk (Below.trod laidOut (by kernel_rfl) (of_decide_eq_true (by kernel_rfl)) k0 bel lt0) (trodAll_cons_mk (Below.trod laidOut (by kernel_rfl) (of_decide_eq_true (by kernel_rfl)) k1 bel lt1) (trodAll_cons_mk (shut_int Try.underlying3 w2) trodAll_mk0))), rfl, bel.frame _, fun h => by cases h⟩
theorem over : Rows.indexOwnRow.holds Try.pinned (OpenSpec.ofChange Rows.indexOwnSpec) :=
  OpenClaim.holds_of_wide 13 Try.f13 rfl rfl rfl rfl rfl rfl rfl ⟨rfl, rfl, rfl, rfl, rfl⟩ rfl rfl rfl rfl rfl (by kernel_rfl) Try.func13 (by kernel_rfl)
    (of_decide_eq_true (by kernel_rfl)) (by unfold Func.isWrapper; first | (rw [if_pos (by decide +kernel)]; kernel_rfl) | (rw [if_neg (by decide +kernel)]; exact ⟨rfl, rfl⟩))
    (fun os started H enc _ => lifted os started H enc)
theorem proved : Rows.IndexOwnSaid := over
#print axioms proved
end Go.Proofs.Ytchpgkojlhipgaa.indexOwn
namespace Go.Proofs.Ytchpgkojlhipgaa
/-- The row, under a short name, for the claim. -/
theorem indexOwn_holds : Rows.IndexOwnSaid := indexOwn.proved
end Go.Proofs.Ytchpgkojlhipgaa
end
