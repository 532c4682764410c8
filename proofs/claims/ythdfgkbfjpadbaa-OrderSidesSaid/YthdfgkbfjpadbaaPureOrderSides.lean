/- OrderSides: plain. -/
import Derived.Test.YthdfgkbfjpadbaaX11
import Derived.Test.YthdfgkbfjpadbaaPOrder
namespace Go.Proofs.Ythdfgkbfjpadbaa.Pure
open Go.RowKit Go.Proofs.Ythdfgkbfjpadbaa.X Go.Proofs.YthdfgkbfjpadbaaW.PrintWords Go.Proofs.YthdfgkbfjpadbaaW.PrintLast
set_option linter.unusedVariables false
/-- What is gone: of the first list what the second one has not. -/
def goneR (o a : List Int) : List Int := o.filter fun y => !decide (y ∈ a)
theorem sides_l0 (x0 x1 : List Int) (h0 : x0.length ≤ 40) (h1 : x1.length ≤ 40) (r : Option Bool) (H : ∀ k, 20000 ≤ k → tartanlaw21_OrderSides.l0 (k + 1) x0 x1 true (goneR x0 x1) (x0.length : Nat) = r) :
    ∀ (d k i : Nat) (o : List Int), i + d = x0.length → d + 20000 < k → o.length ≤ i → o ++ goneR (x0.drop i) x1 = goneR x0 x1 → tartanlaw21_OrderSides.l0 k x0 x1 true o (i : Nat) = r := by
  intro d
  induction d with
  | zero =>
    intro k i o hi hk ho he
    obtain ⟨k, rfl⟩ : ∃ m, k = m + 1 := ⟨k - 1, by omega⟩
    rw [List.drop_eq_nil_of_le (by omega)] at he
    rw [← H k (by omega), ← he, show i = x0.length by omega]
    simp [goneR]
  | succ d ih =>
    intro k i o hi hk ho he
    obtain ⟨k, rfl⟩ : ∃ m, k = m + 1 := ⟨k - 1, by omega⟩
    rw [List.drop_eq_getElem_cons (by omega)] at he
    unfold goneR at he
    rw [List.filter_cons] at he
    simp only [tartanlaw21_OrderSides.l0]
    rw [if_pos (by omega), if_pos (by omega), in_some _ _ (by omega) (by omega), Option.bind_some, wrap_upI _ (by omega), rd_at (by omega)]
    by_cases h : x0[i] ∈ x1
    · rw [decide_eq_true h, if_neg (show ¬ (!true) = true by decide)] at he
      rw [decide_eq_true h, if_pos rfl]
      exact ih k (i + 1) o (by omega) (by omega) (by omega) he
    · rw [decide_eq_false h, if_pos (show (!false) = true from rfl)] at he
      rw [decide_eq_false h, if_neg (by decide), if_pos (by omega)]
      exact ih k (i + 1) _ (by omega) (by omega) (by simp; omega) (by rw [List.append_assoc]; exact he)
theorem gone_not {o a : List Int} {y : Int} (h : y ∈ o ∨ y ∈ a) : (!decide (y ∈ goneR o a)) = decide (y ∈ a) := by
  by_cases hy : y ∈ a
  · rw [decide_eq_true hy, decide_eq_false (by simp [goneR, hy])]; rfl
  · rw [decide_eq_false hy, decide_eq_true (by simp [goneR, hy, h.resolve_right hy])]; rfl
theorem kept_gone {o a w : List Int} (h : ∀ y ∈ w, y ∈ o ∨ y ∈ a) : keptR w (goneR o a) = w.filter fun y => decide (y ∈ a) :=
  List.filter_congr fun y hy => gone_not (h y hy)
theorem sides_ao (o a : List Int) : keptR (weaveR a o) (goneR o a) = onceR a := by
  rw [kept_gone (fun y hy => (((weaveR_ok a o).2.1 y).1 hy).symm), weaveR_keeps]
theorem sides_aa (o a : List Int) : keptR (weaveR a a) (goneR o a) = onceR a := by
  rw [kept_gone (fun y hy => .inr (by have := ((weaveR_ok a a).2.1 y).1 hy; simpa using this)), weaveR_keeps]
theorem sides_one (o a : List Int) : mergeR o a o (goneR o a) = onceR a := by
  unfold mergeR
  split
  · rename_i h
    have hm : ∀ y, y ∈ a ↔ y ∈ o := fun y => by rw [← onceR_mem (l := a), h, onceR_mem]
    rw [kept_gone (fun y hy => ((weaveR_ok o a).2.1 y).1 hy), weaveR_all (fun y hy => (hm y).1 hy), ← h]
    exact List.filter_eq_self.2 (fun y hy => decide_eq_true (onceR_mem.1 hy))
  · exact sides_ao o a
theorem sides_two (o a : List Int) : mergeR o o a (goneR o a) = onceR a := by
  unfold mergeR; rw [if_pos rfl]; exact sides_ao o a
theorem sides_both (o a : List Int) : mergeR o a a (goneR o a) = onceR a := by
  unfold mergeR; rw [ite_self]; exact sides_aa o a
theorem OrderSides : tartanlaw21_OrderSides.Pure := by
  intro l0 l1 _ _ w0 _ _ w1
  refine ⟨30000 + 60, ?_⟩
  unfold tartanlaw21_OrderSides.f
  rw [works21, Option.bind_some, if_pos rfl, few21, Option.bind_some]
  by_cases h : l0.length ≤ 40 ∧ l1.length ≤ 40
  · obtain ⟨h0, h1⟩ := h
    have e6 := onceR_len l1
    have e7 : (goneR l0 l1).length ≤ l0.length := List.length_filter_le _ _
    rw [decide_eq_true h0, decide_eq_true h1, if_pos (show (true && true) = true from rfl)]
    refine sides_l0 l0 l1 h0 h1 _ (fun k hk => ?_) l0.length (30000 + 60) 0 [] (by omega) (by omega) (by simp) (by rw [List.drop_zero]; rfl)
    simp only [tartanlaw21_OrderSides.l0]
    rw [if_neg (by omega), once_some l1 (by omega) (by omega), Option.bind_some, merge_some (by omega) (by omega) (by omega) (by omega) (wfL_of w1) (wfL_of w0), Option.bind_some, sides_one, ints_some _ _ (by omega) (by omega), Option.bind_some,
      merge_some (by omega) (by omega) (by omega) (by omega) (wfL_of w0) (wfL_of w1), Option.bind_some, sides_two, ints_some _ _ (by omega) (by omega), Option.bind_some, merge_some (by omega) (by omega) (by omega) (by omega) (wfL_of w1) (wfL_of w1), Option.bind_some, sides_both, ints_some _ _ (by omega) (by omega), Option.bind_some, decide_eq_true rfl]
    rfl
  · rw [if_neg (by simpa using h)]
end Go.Proofs.Ythdfgkbfjpadbaa.Pure
