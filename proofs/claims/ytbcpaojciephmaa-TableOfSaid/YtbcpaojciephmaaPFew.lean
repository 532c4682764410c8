/- Is a table so small that it is looked at? An answer comes, whatever it holds; and what is small has few rows. -/
import Derived.Test.YtbcpaojciephmaaX8
namespace Go.Proofs.Ytbcpaojciephmaa.X
open Go.RowKit Go.Proofs.YtbcpaojciephmaaW.PrintWords
set_option linter.unusedVariables false
theorem wrap_inF {n : Int} (h0 : -1000000000000 ≤ n) (h1 : n ≤ 1000000000000) : wrap64 n = n := by unfold wrap64; omega
theorem wrap_upF (i : Nat) (h : i ≤ 1000000000) : wrap64 ((i : Int) + 1) = ((i + 1 : Nat) : Int) := by rw [wrap_inF (by omega) (by omega)]; omega
theorem rdL_get (rows : List (List ByteArray)) (i : Nat) : rd_L1 rows (i : Int) = rows.getD i [] := rfl
theorem few_l1 (rows : List (List ByteArray)) (i : Nat) (hi : i < rows.length) (F : Nat) (Q : Option Bool → Prop) (h0 : Q (some false)) (H : ∀ k' x, F ≤ k' → Q (tartanref03_Few.l0 k' rows x (wrap64 ((i : Int) + 1)))) :
    ∀ (d k j : Nat) (x : Int), j + d = (rows.getD i []).length → (rows.getD i []).length ≤ 1000 → d + F + 1 ≤ k → Q (tartanref03_Few.l1 k rows x (i : Nat) (j : Nat)) := by
  intro d
  induction d with
  | zero =>
    intro k j x hj hl hk
    obtain ⟨k, rfl⟩ : ∃ m, k = m + 1 := ⟨k - 1, by omega⟩
    simp only [tartanref03_Few.l1]
    rw [if_pos (by omega), if_pos (by omega), rdL_get, if_neg (by omega)]
    exact H k x (by omega)
  | succ d ih =>
    intro k j x hj hl hk
    obtain ⟨k, rfl⟩ : ∃ m, k = m + 1 := ⟨k - 1, by omega⟩
    simp only [tartanref03_Few.l1]
    rw [if_pos (by omega), if_pos (by omega), rdL_get, if_pos (by omega), if_pos (by omega), wrap_upF _ (by omega)]
    split
    · exact h0
    · exact ih k (j + 1) _ (by omega) hl (by omega)
theorem few_l0 (rows : List (List ByteArray)) (hr : rows.length ≤ 60) : ∀ (d k i : Nat) (x : Int), i + d = rows.length → d * 64 < k → ∃ b, tartanref03_Few.l0 k rows x (i : Nat) = some b ∧ (b = true → ∀ j, i ≤ j → j < rows.length → (rows.getD j []).length ≤ 60) := by
  intro d
  induction d with
  | zero =>
    intro k i x hi hk
    obtain ⟨k, rfl⟩ : ∃ m, k = m + 1 := ⟨k - 1, by omega⟩
    simp only [tartanref03_Few.l0]
    rw [if_neg (by omega)]
    exact ⟨true, rfl, fun _ j h1 h2 => by omega⟩
  | succ d ih =>
    intro k i x hi hk
    obtain ⟨k, rfl⟩ : ∃ m, k = m + 1 := ⟨k - 1, by omega⟩
    simp only [tartanref03_Few.l0]
    rw [if_pos (by omega), if_pos (by omega), rdL_get]
    by_cases h : ((rows.getD i []).length : Int) > 60
    · rw [if_pos h]
      exact ⟨false, rfl, fun h => by cases h⟩
    · rw [if_neg h]
      refine few_l1 rows i (by omega) (d * 64 + 1) (fun r => ∃ b, r = some b ∧ (b = true → ∀ j, i ≤ j → j < rows.length → (rows.getD j []).length ≤ 60)) ⟨false, rfl, fun h => by cases h⟩ (fun k' x' hk' => ?_) (rows.getD i []).length k 0 x (by omega) (by omega) (by omega)
      rw [wrap_upF _ (by omega)]
      obtain ⟨b, e, hb⟩ := ih k' (i + 1) x' (by omega) (by omega)
      refine ⟨b, e, fun hb' j h1 h2 => ?_⟩
      rcases Nat.lt_or_ge i j with h3 | h3
      · exact hb hb' j h3 h2
      · obtain rfl : j = i := by omega
        omega
theorem few_some (rows : List (List ByteArray)) {k : Nat} (hk : 10000 ≤ k) : ∃ b, tartanref03_Few.f k rows = some b ∧ (b = true → rows.length ≤ 60 ∧ ∀ j, j < rows.length → (rows.getD j []).length ≤ 60) := by
  unfold tartanref03_Few.f
  by_cases h : (rows.length : Int) > 60
  · rw [if_pos h]; exact ⟨false, rfl, fun h => by cases h⟩
  · rw [if_neg h]
    obtain ⟨b, e, hb⟩ := few_l0 rows (by omega) rows.length k 0 0 (by omega) (by omega)
    exact ⟨b, e, fun h2 => ⟨by omega, fun j hj => hb h2 j (Nat.zero_le _) hj⟩⟩
theorem total_l2 (h : List ByteArray) (rows : List (List ByteArray)) (i : Nat) (hi : i < rows.length) (F : Nat) (Q : Option Int → Prop) (H : ∀ k' x, F ≤ k' → Q (tartanref04_Total.l1 k' x (wrap64 ((i : Int) + 1)) h rows)) :
    ∀ (d k j : Nat) (x : Int), j + d = (rows.getD i []).length → (rows.getD i []).length ≤ 1000 → d + F + 1 ≤ k → Q (tartanref04_Total.l2 k x (i : Nat) (j : Nat) h rows) := by
  intro d
  induction d with
  | zero =>
    intro k j x hj hl hk
    obtain ⟨k, rfl⟩ : ∃ m, k = m + 1 := ⟨k - 1, by omega⟩
    simp only [tartanref04_Total.l2]
    rw [if_pos (by omega), if_pos (by omega), rdL_get, if_neg (by omega)]
    exact H k x (by omega)
  | succ d ih =>
    intro k j x hj hl hk
    obtain ⟨k, rfl⟩ : ∃ m, k = m + 1 := ⟨k - 1, by omega⟩
    simp only [tartanref04_Total.l2]
    rw [if_pos (by omega), if_pos (by omega), rdL_get, if_pos (by omega), if_pos (by omega), wrap_upF _ (by omega)]
    exact ih k (j + 1) _ (by omega) hl (by omega)
theorem total_l1 (h : List ByteArray) (rows : List (List ByteArray)) (hr : rows.length ≤ 60) (hw : ∀ j, j < rows.length → (rows.getD j []).length ≤ 60) : ∀ (d k i : Nat) (x : Int), i + d = rows.length → d * 64 < k → ∃ t, tartanref04_Total.l1 k x (i : Nat) h rows = some t := by
  intro d
  induction d with
  | zero =>
    intro k i x hi hk
    obtain ⟨k, rfl⟩ : ∃ m, k = m + 1 := ⟨k - 1, by omega⟩
    simp only [tartanref04_Total.l1]
    rw [if_neg (by omega)]
    exact ⟨x, rfl⟩
  | succ d ih =>
    intro k i x hi hk
    obtain ⟨k, rfl⟩ : ∃ m, k = m + 1 := ⟨k - 1, by omega⟩
    have hwi := hw i (by omega)
    simp only [tartanref04_Total.l1]
    rw [if_pos (by omega)]
    refine total_l2 h rows i (by omega) (d * 64 + 1) (fun r => ∃ t, r = some t) (fun k' x' hk' => ?_) (rows.getD i []).length k 0 x (by omega) (by omega) (by omega)
    rw [wrap_upF _ (by omega)]
    exact ih k' (i + 1) x' (by omega) (by omega)
theorem total_l0 (h : List ByteArray) (rows : List (List ByteArray)) (hh : h.length ≤ 60) (hr : rows.length ≤ 60) (hw : ∀ j, j < rows.length → (rows.getD j []).length ≤ 60) : ∀ (d k i : Nat) (x : Int), i + d = h.length → d + 5000 < k → ∃ t, tartanref04_Total.l0 k x (i : Nat) h rows = some t := by
  intro d
  induction d with
  | zero =>
    intro k i x hi hk
    obtain ⟨k, rfl⟩ : ∃ m, k = m + 1 := ⟨k - 1, by omega⟩
    simp only [tartanref04_Total.l0]
    rw [if_neg (by omega)]
    exact total_l1 h rows hr hw rows.length k 0 x (by omega) (by omega)
  | succ d ih =>
    intro k i x hi hk
    obtain ⟨k, rfl⟩ : ∃ m, k = m + 1 := ⟨k - 1, by omega⟩
    simp only [tartanref04_Total.l0]
    rw [if_pos (by omega), if_pos (by omega), wrap_upF _ (by omega)]
    exact ih k (i + 1) _ (by omega) (by omega)
/-- What is small has few rows, few columns, and rows with few cells. -/
theorem few4_some (h : List ByteArray) (rows : List (List ByteArray)) {k : Nat} (hk : 10000 ≤ k) : ∃ b, tartanref04_Few.f k h rows = some b ∧ (b = true → h.length ≤ 60 ∧ rows.length ≤ 60 ∧ ∀ j, j < rows.length → (rows.getD j []).length ≤ 60) := by
  unfold tartanref04_Few.f
  obtain ⟨b, e, hb⟩ := few_some rows hk
  rw [e, Option.bind_some]
  cases b with
  | false => rw [if_neg (by decide)]; exact ⟨false, rfl, fun h => by cases h⟩
  | true =>
    obtain ⟨h1, h2⟩ := hb rfl
    rw [if_pos rfl]
    by_cases h3 : (h.length : Int) ≤ 60
    · rw [if_pos h3]
      obtain ⟨t, et⟩ := total_l0 h rows (by omega) h1 h2 h.length k 0 0 (by omega) (by omega)
      have et' : tartanref04_Total.f k h rows = some t := et
      rw [et', Option.bind_some]
      exact ⟨_, rfl, fun _ => ⟨by omega, h1, h2⟩⟩
    · rw [if_neg h3]; exact ⟨false, rfl, fun h => by cases h⟩
end Go.Proofs.Ytbcpaojciephmaa.X
