/- OrderKeeps: plain. -/
import Derived.Test.YthdfgkbfjpadbaaX10
import Derived.Test.YthdfgkbfjpadbaaPOrder
namespace Go.Proofs.Ythdfgkbfjpadbaa.Pure
open Go.RowKit Go.Proofs.Ythdfgkbfjpadbaa.X Go.Proofs.YthdfgkbfjpadbaaW.PrintWords Go.Proofs.YthdfgkbfjpadbaaW.PrintLast
set_option linter.unusedVariables false
theorem keeps_l0 (x0 x1 w : List Int) (h0 : x0.length ≤ 40) (hw : w.length ≤ 100) (m : Nat) (r : Option Bool) (H : ∀ k, 20000 ≤ k → tartanlaw21_OrderKeeps.l0 (k + 1) x0 x1 true w (w.filter fun y => decide (y ∈ x0)) (w.length : Nat) = r) :
    ∀ (d k i : Nat) (o : List Int), i + d = w.length → d + 20000 < k → o.length ≤ i → o ++ ((w.drop i).filter fun y => decide (y ∈ x0)) = (w.filter fun y => decide (y ∈ x0)) → tartanlaw21_OrderKeeps.l0 k x0 x1 true w o (i : Nat) = r := by
  intro d
  induction d with
  | zero =>
    intro k i o hi hk ho he
    obtain ⟨k, rfl⟩ : ∃ m, k = m + 1 := ⟨k - 1, by omega⟩
    rw [List.drop_eq_nil_of_le (by omega)] at he
    rw [← H k (by omega), ← he, show i = w.length by omega]
    simp
  | succ d ih =>
    intro k i o hi hk ho he
    obtain ⟨k, rfl⟩ : ∃ m, k = m + 1 := ⟨k - 1, by omega⟩
    rw [List.drop_eq_getElem_cons (by omega), List.filter_cons] at he
    simp only [tartanlaw21_OrderKeeps.l0]
    rw [if_pos (by omega), if_pos (by omega), in_some _ _ (by omega) (by omega), Option.bind_some, wrap_upI _ (by omega), rd_at (by omega)]
    by_cases h : w[i] ∈ x0
    · rw [decide_eq_true h, if_pos rfl] at he
      rw [decide_eq_true h, if_pos rfl, if_pos (by omega)]
      exact ih k (i + 1) _ (by omega) (by omega) (by simp; omega) (by rw [List.append_assoc]; exact he)
    · rw [decide_eq_false h, if_neg (by decide)] at he
      rw [decide_eq_false h, if_neg (by decide)]
      exact ih k (i + 1) o (by omega) (by omega) (by omega) he
theorem OrderKeeps : tartanlaw21_OrderKeeps.Pure := by
  intro l0 l1 _ _ w0 _ _ w1
  refine ⟨30000 + 60, ?_⟩
  unfold tartanlaw21_OrderKeeps.f
  rw [works21, Option.bind_some, if_pos rfl, few21, Option.bind_some]
  by_cases h : l0.length ≤ 40 ∧ l1.length ≤ 40
  · obtain ⟨h0, h1⟩ := h
    obtain ⟨e1, e2, e3⟩ := weaveR_ok l0 l1
    have e4 : weaveR (weaveR l0 l1) l1 = weaveR l0 l1 := by rw [weaveR_all (fun y hy => (e2 y).2 (.inr hy)), onceR_id e1]
    have e5 : weaveR l0 l0 = onceR l0 := weaveR_all (fun y hy => hy)
    have e6 := onceR_len l0
    have w2 : wfL (weaveR l0 l1) = true := wfL_of fun y hy => by
      rcases (e2 y).1 hy with h | h
      · exact w0 y h
      · exact w1 y h
    rw [decide_eq_true h0, decide_eq_true h1, if_pos (show (true && true) = true from rfl), weave_some (by omega) (by omega) (wfL_of w0) (wfL_of w1), Option.bind_some]
    refine keeps_l0 l0 l1 _ h0 (by omega) 0 _ (fun k hk => ?_) (weaveR l0 l1).length (30000 + 60) 0 [] (by omega) (by omega) (by simp) (by rw [List.drop_zero]; rfl)
    rw [weaveR_keeps]
    simp only [tartanlaw21_OrderKeeps.l0]
    rw [if_neg (by omega), once_some l0 (by omega) (by omega), Option.bind_some, ints_some _ _ (by omega) (by omega), Option.bind_some, weave_some (by omega) (by omega) w2 (wfL_of w1), Option.bind_some, e4, ints_some _ _ (by omega) (by omega), Option.bind_some, decide_eq_true rfl, if_pos rfl,
      weave_some (by omega) (by omega) (wfL_of w0) (wfL_of w0), Option.bind_some, Option.bind_some, e5, ints_some _ _ (by omega) (by omega), Option.bind_some, decide_eq_true rfl, if_pos trivial]
    rfl
  · rw [if_neg (by simpa using h)]
end Go.Proofs.Ythdfgkbfjpadbaa.Pure
