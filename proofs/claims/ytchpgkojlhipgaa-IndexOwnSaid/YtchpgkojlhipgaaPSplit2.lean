/- How many groups there are. Plain. -/
import Derived.Test.YtchpgkojlhipgaaPSplit
namespace Go.Proofs.Ytchpgkojlhipgaa.X
set_option linter.unusedVariables false
theorem len_le_range : ∀ (n : Nat) (l : List Int), l.Nodup → (∀ i ∈ l, 0 ≤ i ∧ i < (n : Int)) → l.length ≤ n
  | 0, l, _, h => by
    cases l with
    | nil => exact Nat.le_refl _
    | cons a r => have := h a List.mem_cons_self; omega
  | n + 1, l, hd, h => by
    by_cases hm : (n : Int) ∈ l
    · have h1 := len_le_range n (l.erase (n : Int)) (hd.erase _) (fun i hi => by
        have h2 := (hd.mem_erase_iff).1 hi
        have h3 := h i h2.2
        have := h2.1
        omega)
      rw [List.length_erase_of_mem hm] at h1
      omega
    · exact Nat.le_succ_of_le (len_le_range n l hd (fun i hi => by
        have := h i hi
        have : i ≠ n := fun e => hm (e ▸ hi)
        omega))
section
variable (cell : Int → Int → ByteArray)
def Sep (G : List (List Int)) : Prop := G.Pairwise fun a b => ∀ x ∈ a, ∀ y ∈ b, x ≠ y
theorem sep_part {g : List Int} {c : Int} (hg : g.Nodup) : Sep (partG cell g c) := by
  unfold Sep partG
  rw [List.pairwise_flatMap]
  refine ⟨fun i hi => ?_, ?_⟩
  · unfold partQ
    split
    · exact List.pairwise_singleton _ _
    · exact List.Pairwise.nil
  · refine hg.imp ?_
    intro i j hne l hl l' hl' x hx y hy e
    subst e
    unfold partQ at hl hl'
    split at hl
    · rename_i h1
      split at hl'
      · rename_i h2
        rw [List.mem_singleton.1 hl] at hx
        rw [List.mem_singleton.1 hl'] at hy
        have e1 := ((mem_cls cell).1 hx).2
        have e2 := ((mem_cls cell).1 hy).2
        have e3 : clsR cell g c i = clsR cell g c j := cls_congr cell (e1.symm.trans e2)
        have := h1.2
        rw [e3, h2.2] at this
        exact hne (by injection this with h; exact h.symm)
      · cases hl'
    · cases hl
theorem part_sub {g l : List Int} {c : Int} (hl : l ∈ partG cell g c) : ∀ x ∈ l, x ∈ g := by
  obtain ⟨i, _, _, _, rfl⟩ := (mem_partG cell).1 hl
  exact fun x hx => ((mem_cls cell).1 hx).1
theorem sep_split {G : List (List Int)} {c : Int} (hG : Sep G) (hn : ∀ g ∈ G, g.Nodup) : Sep (splitR cell G c) := by
  unfold Sep splitR
  rw [List.pairwise_flatMap]
  refine ⟨fun g hg => sep_part cell (hn g hg), hG.imp ?_⟩
  intro a b hab l hl l' hl' x hx y hy
  exact hab x (part_sub cell hl x hx) y (part_sub cell hl' y hy)
theorem sep_all {n : Nat} : ∀ (cols P : List Int) (G : List (List Int)), Grp cell n P G → Sep G → Sep (cols.foldl (splitR cell) G)
  | [], P, G, h, hs => hs
  | c :: r, P, G, h, hs => sep_all r (P ++ [c]) _ (grp_step cell h c) (sep_split cell hs h.nd)
theorem sep_len {n : Nat} {P : List Int} {G : List (List Int)} (h : Grp cell n P G) (hs : Sep G) (hne : ∀ g ∈ G, g ≠ []) : G.length ≤ n := by
  have hf : G.flatten.Nodup := by
    unfold List.Nodup
    rw [List.pairwise_flatten]
    exact ⟨h.nd, hs⟩
  have h1 := len_le_range n G.flatten hf (fun i hi => by
    obtain ⟨g, hg, hi⟩ := List.mem_flatten.1 hi
    exact h.rng g hg i hi)
  refine Nat.le_trans ?_ h1
  clear h hs hf h1
  induction G with
  | nil => exact Nat.zero_le _
  | cons g r ih =>
    have hg : 0 < g.length := List.length_pos_iff.2 (hne g List.mem_cons_self)
    have := ih (fun g hg => hne g (List.mem_cons_of_mem _ hg))
    simp only [List.flatten_cons, List.length_append, List.length_cons]
    omega
/-- There are at most as many groups as rows (or one). -/
theorem groups_len (n : Nat) (cols : List Int) : (groupsR cell n cols).length ≤ n + 1 := by
  by_cases hc : cols = []
  · subst hc
    exact Nat.le_add_left _ _
  · have h := grp_all cell cols [] _ (grp_start cell n)
    have hs := sep_all cell cols [] _ (grp_start cell n) (List.pairwise_singleton _ _)
    exact Nat.le_succ_of_le (sep_len cell h hs (fun g hg e => by have := h.two (by simpa using hc) g hg; rw [e] at this; cases this))
theorem groups_mem (n : Nat) (cols : List Int) : ∀ g ∈ groupsR cell n cols, g.length ≤ n ∧ ∀ i ∈ g, 0 ≤ i ∧ i < (n : Int) := fun g hg => by
  have h := grp_all cell cols [] _ (grp_start cell n)
  exact ⟨len_le_range n g (h.nd g hg) (h.rng g hg), h.rng g hg⟩
theorem groups_snoc (n : Nat) (cols : List Int) (c : Int) : groupsR cell n (cols ++ [c]) = splitR cell (groupsR cell n cols) c := by unfold groupsR; rw [List.foldl_append]; rfl
end
end Go.Proofs.Ytchpgkojlhipgaa.X
