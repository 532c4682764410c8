/- A row put in order, and sorted rows: the same list. Over any program. -/
import Derived.Test.YtchpgkojlhipgaaWMore
import Derived.Sort.LotA
namespace Go.Proofs.Ytchpgkojlhipgaa.GIns
open Go
/- Insertion, in an order. -/
section
variable {α : Type} (le : α → α → Bool)
def insB (x : α) : List α → List α
  | [] => [x]
  | y :: t => if le x y = true then x :: y :: t else y :: insB x t
def isort (l : List α) : List α := l.foldr (insB le) []
theorem perm_insB (x : α) : ∀ l : List α, (insB le x l).Perm (x :: l)
  | [] => List.Perm.refl _
  | y :: t => by
    unfold insB
    split
    · exact List.Perm.refl _
    · exact ((perm_insB x t).cons y).trans (List.Perm.swap x y t)
theorem perm_isort : ∀ l : List α, (isort le l).Perm l
  | [] => List.Perm.refl _
  | x :: l => (perm_insB le x _).trans ((perm_isort l).cons x)
theorem sort_insB (tot : ∀ a b, (le a b || le b a) = true) (tr : ∀ a b c, le a b = true → le b c = true → le a c = true) (x : α) : ∀ l : List α, l.Pairwise (fun a b => le a b = true) → (insB le x l).Pairwise (fun a b => le a b = true)
  | [], _ => List.pairwise_singleton _ _
  | y :: t, h => by
    have h' := List.pairwise_cons.1 h
    unfold insB
    split
    · rename_i hxy
      refine List.pairwise_cons.2 ⟨fun z hz => ?_, h⟩
      rcases List.mem_cons.1 hz with rfl | hz
      · exact hxy
      · exact tr _ _ _ hxy (h'.1 z hz)
    · rename_i hxy
      have hyx : le y x = true := by
        have := tot x y
        rw [Bool.not_eq_true] at hxy
        rw [hxy] at this
        simpa using this
      refine List.pairwise_cons.2 ⟨fun z hz => ?_, sort_insB tot tr x t h'.2⟩
      rcases List.mem_cons.1 ((perm_insB le x t).mem_iff.1 hz) with rfl | hz
      · exact hyx
      · exact h'.1 z hz
theorem sort_isort (tot : ∀ a b, (le a b || le b a) = true) (tr : ∀ a b c, le a b = true → le b c = true → le a c = true) : ∀ l : List α, (isort le l).Pairwise (fun a b => le a b = true)
  | [] => List.Pairwise.nil
  | x :: l => sort_insB le tot tr x _ (sort_isort tot tr l)
theorem sorted_unique (anti : ∀ a b, le a b = true → le b a = true → a = b) : ∀ (a b : List α), a.Perm b → a.Pairwise (fun x y => le x y = true) → b.Pairwise (fun x y => le x y = true) → a = b
  | [], b, hp, _, _ => (List.Perm.nil_eq hp)
  | x :: a, [], hp, _, _ => absurd hp.length_eq (by simp)
  | x :: a, y :: b, hp, ha, hb => by
    have ha' := List.pairwise_cons.1 ha
    have hb' := List.pairwise_cons.1 hb
    have hxy : x = y := by
      rcases List.mem_cons.1 (hp.mem_iff.1 List.mem_cons_self) with e | h1
      · exact e
      · rcases List.mem_cons.1 (hp.mem_iff.2 List.mem_cons_self) with e | h2
        · exact e.symm
        · exact anti _ _ (ha'.1 _ h2) (hb'.1 _ h1)
    subst hxy
    rw [sorted_unique anti a b (List.Perm.cons_inv hp) ha'.2 hb'.2]
theorem merge_isort (tot : ∀ a b, (le a b || le b a) = true) (tr : ∀ a b c, le a b = true → le b c = true → le a c = true) (anti : ∀ a b, le a b = true → le b a = true → a = b) (l : List α) : l.mergeSort le = isort le l :=
  sorted_unique le anti _ _ ((List.mergeSort_perm l le).trans (perm_isort le l).symm) (List.pairwise_mergeSort tr tot l) (sort_isort le tot tr l)
end

end Go.Proofs.Ytchpgkojlhipgaa.GIns
