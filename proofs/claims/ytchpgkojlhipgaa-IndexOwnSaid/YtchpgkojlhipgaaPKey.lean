/- Keys of rows, and how two stand, plainly. -/
import Derived.Test.YtchpgkojlhipgaaPCell
import Derived.Test.YtchpgkojlhipgaaX1
import Derived.Test.YtchpgkojlhipgaaX3
import Derived.Test.YtchpgkojlhipgaaX2
import Derived.Test.YtchpgkojlhipgaaX2
namespace Go.Proofs.Ytchpgkojlhipgaa.X
open Go.RowKit Go.Proofs.YtchpgkojlhipgaaW.PrintWords
set_option linter.unusedVariables false

theorem wrap_inK {n : Int} (h0 : -1000000000000 ≤ n) (h1 : n ≤ 1000000000000) : wrap64 n = n := by unfold wrap64; omega
theorem wrap_upK (i : Nat) (h : i ≤ 1000000000) : wrap64 ((i : Int) + 1) = ((i + 1 : Nat) : Int) := by rw [wrap_inK (by omega) (by omega)]; omega
theorem dropB {l : List ByteArray} {t : Nat} (h : t < l.length) : l.drop t = rdOf ByteArray.empty l (t : Int) :: l.drop (t + 1) := by
  unfold rdOf
  rw [show ((t : Int)).toNat = t from rfl, List.getD_eq_getElem?_getD, List.getElem?_eq_getElem h]
  exact List.drop_eq_getElem_cons h
theorem dropK {l : List Int} {t : Nat} (h : t < l.length) : l.drop t = rd l (t : Int) :: l.drop (t + 1) := by
  unfold rd
  rw [show ((t : Int)).toNat = t from rfl, List.getD_eq_getElem?_getD, List.getElem?_eq_getElem h]
  exact List.drop_eq_getElem_cons h
/-- How two texts stand. -/
def cmp1 (a b : ByteArray) : Int := if Op.bytesLess a.toList b.toList = true then -1 else if Op.bytesLess b.toList a.toList = true then 1 else 0
theorem cmp1_some (a b : ByteArray) : cmp_Compare_string.f a b = some (cmp1 a b) := by
  have e : ∀ a : ByteArray, cmp_isNaN_string.f a = some false := fun a => by unfold cmp_isNaN_string.f; simp
  unfold cmp_Compare_string.f cmp1
  rw [e, e, Option.bind_some, Option.bind_some, if_neg (by decide), if_neg (by decide)]
  split
  · rfl
  · split <;> rfl
def cmpI (a b : Int) : Int := if a < b then -1 else if a > b then 1 else 0
theorem cmpI_some (a b : Int) : cmp_Compare_int.f a b = some (cmpI a b) := by
  have e : ∀ a : Int, cmp_isNaN_int.f a = some false := fun a => by unfold cmp_isNaN_int.f; simp
  unfold cmp_Compare_int.f cmpI
  rw [e, e, Option.bind_some, Option.bind_some, if_neg (by decide), if_neg (by decide)]
  split
  · rfl
  · split <;> rfl
/-- How two keys stand. -/
def cmpS : List ByteArray → List ByteArray → Int
  | [], [] => 0
  | [], _ :: _ => -1
  | _ :: _, [] => 1
  | a :: x, b :: y => if cmp1 a b = 0 then cmpS x y else cmp1 a b
theorem cmpS_nil (a b : List ByteArray) (h : a = [] ∨ b = []) : cmpS a b = cmpI a.length b.length := by
  unfold cmpI
  rcases a with _ | ⟨p, a⟩ <;> rcases b with _ | ⟨q, b⟩
  · rfl
  · unfold cmpS; rw [if_pos (by simp only [List.length_nil, List.length_cons]; omega)]
  · unfold cmpS; rw [if_neg (by simp only [List.length_nil, List.length_cons]; omega), if_pos (by simp only [List.length_nil, List.length_cons]; omega)]
  · simp at h
theorem cmpI_len {a b a' b' : Nat} (t : Nat) (ha : a = t + a') (hb : b = t + b') : cmpI a b = cmpI a' b' := by
  unfold cmpI
  subst ha hb
  repeat' split
  all_goals omega
theorem rows_l0 (a b : List ByteArray) (ha : a.length ≤ 1000000) (hb : b.length ≤ 1000000) : ∀ (d k i : Nat), i + d = min a.length b.length → d < k → index_rows_string.l0 k a b (mn (a.length : Int) (b.length : Int)) (i : Nat) = some (cmpS (a.drop i) (b.drop i)) := by
  have hm : mn (a.length : Int) (b.length : Int) = ((min a.length b.length : Nat) : Int) := by unfold mn; split <;> omega
  rw [hm]
  intro d
  induction d with
  | zero =>
    intro k i hi hk
    obtain ⟨k, rfl⟩ : ∃ m, k = m + 1 := ⟨k - 1, by omega⟩
    simp only [index_rows_string.l0]
    rw [if_neg (by omega), cmpI_some, Option.bind_some, cmpS_nil]
    · rw [cmpI_len (a' := (a.drop i).length) (b' := (b.drop i).length) i (by rw [List.length_drop]; omega) (by rw [List.length_drop]; omega)]
    · rcases Nat.le_total a.length b.length with h | h
      · left; exact List.drop_eq_nil_of_le (by omega)
      · right; exact List.drop_eq_nil_of_le (by omega)
  | succ d ih =>
    intro k i hi hk
    obtain ⟨k, rfl⟩ : ∃ m, k = m + 1 := ⟨k - 1, by omega⟩
    have ih' := ih k (i + 1) (by omega) (by omega)
    simp only [index_rows_string.l0]
    rw [if_pos (by omega), if_pos (by omega), if_pos (by omega), if_pos (by omega), cmp1_some, Option.bind_some, wrap_upK _ (by omega), ih', dropB (l := a) (t := i) (by omega), dropB (l := b) (t := i) (by omega)]
    simp only [cmpS]
    split <;> rfl
theorem rows_some {a b : List ByteArray} (ha : a.length ≤ 1000000) (hb : b.length ≤ 1000000) {k : Nat} (hk : 1000000 < k) : index_rows_string.f k a b = some (cmpS a b) := by
  unfold index_rows_string.f
  exact rows_l0 a b ha hb (min a.length b.length) k 0 (by omega) (by omega)
/-- A row's key. -/
def keyR (rows : List (List ByteArray)) (r : Int) (cols : List Int) : List ByteArray := cols.map (cellR rows r)
theorem keyR_len (rows : List (List ByteArray)) (r : Int) (cols : List Int) : (keyR rows r cols).length = cols.length := by unfold keyR; simp
theorem key_l0 (h : List ByteArray) (rows : List (List ByteArray)) (r : Int) (cols : List Int) (hc : cols.length ≤ 1000000) : ∀ (d k i : Nat), i + d = cols.length → d < k → index_Key.l0 k r ((keyR rows r cols).take i) cols (cols.length : Int) (i : Nat) h rows = some (keyR rows r cols) := by
  have hl := keyR_len rows r cols
  intro d
  induction d with
  | zero =>
    intro k i hi hk
    obtain ⟨k, rfl⟩ : ∃ m, k = m + 1 := ⟨k - 1, by omega⟩
    simp only [index_Key.l0]
    rw [if_neg (by omega), List.take_of_length_le (by omega)]
  | succ d ih =>
    intro k i hi hk
    obtain ⟨k, rfl⟩ : ∃ m, k = m + 1 := ⟨k - 1, by omega⟩
    have ih' := ih k (i + 1) (by omega) (by omega)
    have et : (keyR rows r cols).take (i + 1) = (keyR rows r cols).take i ++ [cellR rows r (rd cols (i : Int))] := by
      unfold keyR
      rw [← List.map_take, ← List.map_take, List.take_succ_eq_append_getElem (by omega), List.map_append]
      have e : rd cols (i : Int) = cols[i] := by unfold rd; rw [show ((i : Int)).toNat = i from rfl, List.getD_eq_getElem?_getD, List.getElem?_eq_getElem (by omega)]; rfl
      rw [e]; rfl
    simp only [index_Key.l0]
    rw [if_pos (by omega), if_pos (by omega), if_pos (by omega), cell_some, Option.bind_some, if_pos (by rw [List.length_take]; omega), wrap_upK _ (by omega), ← et, ih']
theorem key_some {h : List ByteArray} {rows : List (List ByteArray)} {r : Int} {cols : List Int} (hc : cols.length ≤ 1000000) {k : Nat} (hk : 1000000 < k) : index_Key.f k h rows r cols = some (keyR rows r cols) := by
  unfold index_Key.f
  exact key_l0 h rows r cols hc cols.length k 0 (by omega) (by omega)
def orI (a b : Int) : Int := if a = 0 then b else a
theorem or_some (a b : Int) {k : Nat} (hk : 2 < k) : cmp_Or_int.f k [a, b] = some (orI a b) := by
  obtain ⟨k, rfl⟩ : ∃ m, k = m + 3 := ⟨k - 3, by omega⟩
  have e1 : wrap64 (0 + 1) = 1 := wrap_inK (by omega) (by omega)
  have e2 : wrap64 (1 + 1) = 2 := wrap_inK (by omega) (by omega)
  have e3 : ((([a, b] : List Int).length : Nat) : Int) = 2 := rfl
  have r0 : rd [a, b] 0 = a := rfl
  have r1 : rd [a, b] 1 = b := rfl
  unfold cmp_Or_int.f orI
  simp only [cmp_Or_int.l0, e1, e2, e3, r0, r1]
  by_cases h : a = 0
  · by_cases h2 : b = 0 <;> simp [h, h2]
  · simp [h]
end Go.Proofs.Ytchpgkojlhipgaa.X
