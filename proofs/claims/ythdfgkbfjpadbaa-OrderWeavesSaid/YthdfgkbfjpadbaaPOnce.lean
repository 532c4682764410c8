/- Each number once; two orders in one: plain. -/
import Derived.Test.YthdfgkbfjpadbaaX2
import Derived.Test.YthdfgkbfjpadbaaX3
import Derived.Test.YthdfgkbfjpadbaaPChain
namespace Go.Proofs.Ythdfgkbfjpadbaa.X
open Go.RowKit Go.Proofs.YthdfgkbfjpadbaaW.PrintWords
set_option linter.unusedVariables false
theorem wrap_upI (i : Nat) (h : i ≤ 1000000000) : wrap64 ((i : Int) + 1) = ((i + 1 : Nat) : Int) := by unfold wrap64; omega
theorem rd_at {l : List Int} {i : Nat} (h : i < l.length) : rd l (i : Int) = l[i] := by
  show l.getD i 0 = _
  rw [List.getD_eq_getElem?_getD, List.getElem?_eq_getElem h]; rfl
theorem index_l0 (l : List Int) (x : Int) (hl : l.length ≤ 100000) : ∀ (d k i : Nat), i + d = l.length → d < k → ∃ r, slices_Index_int_int.l0 k l x (l.length : Int) (i : Nat) = some r ∧ (0 ≤ r ↔ x ∈ l.drop i) := by
  intro d
  induction d with
  | zero =>
    intro k i hi hk
    obtain ⟨k, rfl⟩ : ∃ m, k = m + 1 := ⟨k - 1, by omega⟩
    simp only [slices_Index_int_int.l0]
    rw [if_neg (by omega)]
    exact ⟨-1, rfl, by rw [List.drop_eq_nil_of_le (by omega)]; simp⟩
  | succ d ih =>
    intro k i hi hk
    obtain ⟨k, rfl⟩ : ∃ m, k = m + 1 := ⟨k - 1, by omega⟩
    simp only [slices_Index_int_int.l0]
    rw [if_pos (by omega), if_pos (by omega), if_pos (by omega), wrap_upI _ (by omega), List.drop_eq_getElem_cons (by omega), rd_at (by omega)]
    by_cases e : x = l[i]
    · rw [if_pos e]
      exact ⟨i, rfl, ⟨fun _ => List.mem_cons.2 (.inl e), fun _ => by omega⟩⟩
    · rw [if_neg e]
      obtain ⟨r, h1, h2⟩ := ih k (i + 1) (by omega) (by omega)
      exact ⟨r, h1, by rw [h2, List.mem_cons]; exact ⟨.inr, fun h => h.resolve_left e⟩⟩
theorem contains_some (l : List Int) (x : Int) (hl : l.length ≤ 100000) {k : Nat} (hk : l.length < k) : slices_Contains_int_int.f k l x = some (decide (x ∈ l)) := by
  obtain ⟨r, h1, h2⟩ := index_l0 l x hl l.length k 0 (by omega) (by omega)
  have h3 : slices_Index_int_int.f k l x = some r := h1
  rw [List.drop_zero] at h2
  unfold slices_Contains_int_int.f
  rw [h3, Option.bind_some]
  congr 1
  exact decide_eq_decide.2 h2
def onceS (o : List Int) (n : Int) : List Int := if n ∈ o then o else o ++ [n]
def onceR (l : List Int) : List Int := l.foldl onceS []
theorem onceS_len (o : List Int) (n : Int) : (onceS o n).length ≤ o.length + 1 := by
  unfold onceS; split <;> simp
theorem once_l0 (l : List Int) (hl : l.length ≤ 1000) : ∀ (d k i : Nat) (o : List Int), i + d = l.length → d + 2000 < k → o.length ≤ i → order_Once.l0 k o l (l.length : Int) (i : Nat) = some ((l.drop i).foldl onceS o) := by
  intro d
  induction d with
  | zero =>
    intro k i o hi hk ho
    obtain ⟨k, rfl⟩ : ∃ m, k = m + 1 := ⟨k - 1, by omega⟩
    simp only [order_Once.l0]
    rw [if_neg (by omega), List.drop_eq_nil_of_le (by omega)]; rfl
  | succ d ih =>
    intro k i o hi hk ho
    obtain ⟨k, rfl⟩ : ∃ m, k = m + 1 := ⟨k - 1, by omega⟩
    simp only [order_Once.l0]
    rw [if_pos (by omega), if_pos (by omega), if_pos (by omega), contains_some _ _ (by omega) (by omega), Option.bind_some, wrap_upI _ (by omega), List.drop_eq_getElem_cons (by omega), rd_at (by omega), List.foldl_cons]
    by_cases h : l[i] ∈ o
    · rw [decide_eq_true h, if_pos rfl]
      have e : onceS o l[i] = o := if_pos h
      rw [e]
      exact ih k (i + 1) o (by omega) (by omega) (by omega)
    · rw [decide_eq_false h, if_neg (by decide), if_pos (by omega)]
      have e : onceS o l[i] = o ++ [l[i]] := if_neg h
      rw [e]
      exact ih k (i + 1) _ (by omega) (by omega) (by simp; omega)
theorem once_some (l : List Int) (hl : l.length ≤ 1000) {k : Nat} (hk : 4000 ≤ k) : order_Once.f k l = some (onceR l) := by
  have := once_l0 l hl l.length k 0 [] (by omega) (by omega) (by simp)
  rw [List.drop_zero] at this
  exact this
theorem fold_len : ∀ (l o : List Int), (l.foldl onceS o).length ≤ o.length + l.length
  | [], o => by simp
  | n :: r, o => by
    have h1 := fold_len r (onceS o n)
    have h2 := onceS_len o n
    simp only [List.foldl_cons, List.length_cons]
    omega
theorem onceR_len (l : List Int) : (onceR l).length ≤ l.length := by have := fold_len l []; simpa [onceR] using this
theorem onceS_mem {o : List Int} {n y : Int} : y ∈ onceS o n ↔ y ∈ o ∨ y = n := by
  unfold onceS
  split
  · rename_i h
    constructor
    · exact .inl
    · rintro (h1 | rfl)
      · exact h1
      · exact h
  · simp
theorem fold_mem : ∀ (l o : List Int) (y : Int), y ∈ l.foldl onceS o ↔ y ∈ o ∨ y ∈ l
  | [], o, y => by simp
  | n :: r, o, y => by
    simp only [List.foldl_cons, fold_mem r, onceS_mem, List.mem_cons]
    exact or_assoc
theorem onceR_mem {l : List Int} {y : Int} : y ∈ onceR l ↔ y ∈ l := by simp [onceR, fold_mem]
/-- One list's numbers are put into the chain, one by one. -/
def wvK (l L : List Int) : Nat → List Int
  | 0 => L
  | i + 1 => if l.getD i 0 ∈ wvK l L i then wvK l L i else putL (wvK l L i) (l.getD i 0) (l.getD (i - 1) 0) (decide (i = 0))
theorem wvK_ok (l L : List Int) : ∀ i, i ≤ l.length → (∀ y ∈ L, y ∈ wvK l L i) ∧ (∀ j, j < i → l.getD j 0 ∈ wvK l L i) ∧ (wvK l L i).length ≤ L.length + i ∧ (wvK l L i = [] ∨ decide (i = 0) = true ∨ l.getD (i - 1) 0 ∈ wvK l L i) := by
  intro i
  induction i with
  | zero => intro _; exact ⟨fun y hy => hy, fun j hj => by omega, Nat.le_refl _, .inr (.inl rfl)⟩
  | succ i ih =>
    intro hi
    obtain ⟨h1, h2, h3, h4⟩ := ih (by omega)
    unfold wvK
    by_cases hm : l.getD i 0 ∈ wvK l L i
    · rw [if_pos hm]
      refine ⟨h1, fun j hj => ?_, by omega, .inr (.inr hm)⟩
      rcases Nat.lt_or_ge j i with h | h
      · exact h2 j h
      · obtain rfl : j = i := by omega
        exact hm
    · rw [if_neg hm]
      have hc : wvK l L i = [] ∨ decide (i = 0) = true ∨ l.getD (i - 1) 0 ∈ wvK l L i := h4
      have hmem : ∀ y, y ∈ putL (wvK l L i) (l.getD i 0) (l.getD (i - 1) 0) (decide (i = 0)) ↔ y = l.getD i 0 ∨ y ∈ wvK l L i := by
        intro y
        unfold putL
        by_cases h0 : wvK l L i = []
        · rw [if_pos h0, h0]; simp
        · rw [if_neg h0]
          by_cases hf : decide (i = 0) = true
          · rw [if_pos hf]; simp
          · rw [if_neg hf]
            obtain ⟨A, B, e1, e2⟩ := insB_eq (l.getD i 0) ((hc.resolve_left h0).resolve_left hf)
            rw [e2]
            conv => rhs; rw [e1]
            simp only [List.mem_append, List.mem_cons]
            constructor
            · rintro (h | h | h | h) <;> simp [h]
            · rintro (h | h | h | h) <;> simp [h]
      refine ⟨fun y hy => (hmem y).2 (.inr (h1 y hy)), fun j hj => ?_, ?_, .inr (.inr ((hmem _).2 (.inl rfl)))⟩
      · rcases Nat.lt_or_ge j i with h | h
        · exact (hmem _).2 (.inr (h2 j h))
        · obtain rfl : j = i := by omega
          exact (hmem _).2 (.inl rfl)
      · rw [putL_len _ _ _ _ hc]; omega
def weaveR (a b : List Int) : List Int := wvK (onceR b) (wvK (onceR a) [] (onceR a).length) (onceR b).length
def wfL (l : List Int) : Bool := l.all fun x => (Lit.int .i64 x).wf
theorem wfL_mem {l : List Int} (h : wfL l = true) : ∀ x ∈ l, (Lit.int .i64 x).wf = true := by
  simpa [wfL, List.all_eq_true] using h
def order_Weave.f (l0 l1 : List Int) : Option (List Int) := if l0.length ≤ 400 ∧ l1.length ≤ 400 ∧ wfL l0 = true ∧ wfL l1 = true then some (weaveR l0 l1) else none
end Go.Proofs.Ythdfgkbfjpadbaa.X
