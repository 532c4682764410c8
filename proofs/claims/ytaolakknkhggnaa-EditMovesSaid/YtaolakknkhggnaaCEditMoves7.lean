/- The texts that the law EditMoves wants, part 7 of 7: what is kept of them. -/
import Derived.KernelRfl
import Derived.Test.YtaolakknkhggnaaCEditMoves6
section
namespace Go.Proofs.Ytaolakknkhggnaa.X
open Go.RowKit Go.Proofs.YtaolakknkhggnaaW.PrintWords
set_option linter.unusedVariables false
/-- Small tables. -/
structure Sm (hd : List ByteArray) (rows : List (List ByteArray)) : Prop where
  h : hd.length ≤ 100
  r : rows.length ≤ 100
  w : ∀ j, j < rows.length → (rows.getD j []).length ≤ 100
end Go.Proofs.Ytaolakknkhggnaa.X
end
section
namespace Go.Proofs.Ytaolakknkhggnaa.X
open Go.RowKit Go.Proofs.YtaolakknkhggnaaW.PrintWords
set_option linter.unusedVariables false
theorem fuel05 : ∃ k : Nat, 200000 ≤ k := ⟨200000, Nat.le_refl _⟩
theorem fewE (h : List ByteArray) (rows : List (List ByteArray)) {k : Nat} (hk : 10000 ≤ k) : ∃ b, tartanref04_Few.f k h rows = some b ∧ (b = true → Sm h rows) := by
  obtain ⟨b, e, hb⟩ := few4_some h rows hk
  exact ⟨b, e, fun h => by
    obtain ⟨h1, h2, h3⟩ := hb h
    exact ⟨by omega, by omega, fun j hj => by have := h3 j hj; omega⟩⟩
def okS (l : List ByteArray) : Prop := ∀ s ∈ l, s.size ≤ maxLen
theorem okE_mk {hd : List ByteArray} {rows : List (List ByteArray)} (h1 : hd.length ≤ 90000) (h2 : rows.length ≤ 90000) (h3 : okS hd) : okE hd rows = true := by
  simp only [okE, Bool.and_eq_true, decide_eq_true_eq]
  exact ⟨⟨okT_mk (by omega) (by omega) h3, h1⟩, h2⟩
theorem Sm.okE {hd : List ByteArray} {rows : List (List ByteArray)} (s : Sm hd rows) (h : okS hd) : okE hd rows = true := okE_mk (by have := s.h; omega) (by have := s.r; omega) h
/-- What made computes: of what it is told, one of three. -/
theorem made_ok {hd : List ByteArray} {rows : List (List ByteArray)} {x : Int} {h : List ByteArray} {r : List (List ByteArray)} (e : (madeT hd rows x h r).2.2 = 0) : checkT hd rows = 0 ∧ x = 0 ∧ checkT h r = 0 ∧ madeT hd rows x h r = (h, r, 0) := by
  unfold madeT at e ⊢
  split at e
  · rename_i h1; exact absurd e h1
  · rename_i h1
    split at e
    · rename_i h2; exact absurd e h2
    · rename_i h2
      split at e
      · rename_i h3; exact absurd e h3
      · rename_i h3
        rw [if_neg h1, if_neg h2, if_neg h3]
        exact ⟨Decidable.not_not.1 h1, Decidable.not_not.1 h2, Decidable.not_not.1 h3, rfl⟩
theorem made_of {hd : List ByteArray} {rows : List (List ByteArray)} {x : Int} {h : List ByteArray} {r : List (List ByteArray)} (h1 : checkT hd rows = 0) (h2 : x = 0) (h3 : checkT h r = 0) : madeT hd rows x h r = (h, r, 0) := by
  unfold madeT
  rw [if_neg (by rw [h1]; simp), if_neg (by rw [h2]; simp), if_neg (by rw [h3]; simp)]
theorem made_bad {hd : List ByteArray} {rows : List (List ByteArray)} {x : Int} {h : List ByteArray} {r : List (List ByteArray)} (e : (madeT hd rows x h r).2.2 ≠ 0) : (madeT hd rows x h r).1 = [] ∧ (madeT hd rows x h r).2.1 = [] := by
  unfold madeT at e ⊢
  split at e
  · rename_i h1; rw [if_pos h1]; exact ⟨rfl, rfl⟩
  · rename_i h1
    split at e
    · rename_i h2; rw [if_neg h1, if_pos h2]; exact ⟨rfl, rfl⟩
    · rename_i h2
      split at e
      · rename_i h3; rw [if_neg h1, if_neg h2, if_pos h3]; exact ⟨rfl, rfl⟩
      · exact absurd rfl e
theorem dropL_putL {α : Type} {l : List α} {i : Nat} (x : α) (h : i ≤ l.length) : dropL (putL l i x) i = l := by
  refine List.ext_getElem? fun j => ?_
  rw [dropL_get (by rw [putL_length x h]; omega)]
  by_cases h1 : j < i
  · rw [if_pos h1, putL_get x h, if_pos h1]
  · rw [if_neg h1, putL_get x h, if_neg (by omega), if_neg (by omega)]
    rfl
theorem putL_dropL {α : Type} {l : List α} {i : Nat} {x : α} (h : l[i]? = some x) : putL (dropL l i) i x = l := by
  have hi := (List.getElem?_eq_some_iff.1 h).1
  have hd := dropL_length hi
  refine List.ext_getElem? fun j => ?_
  rw [putL_get x (by omega)]
  by_cases h1 : j < i
  · rw [if_pos h1, dropL_get hi, if_pos h1]
  · rw [if_neg h1]
    by_cases h2 : j = i
    · rw [if_pos h2, h2, h]
    · rw [if_neg h2, dropL_get hi, if_neg (by omega)]
      congr 1
      omega
theorem putL_at {α : Type} {l : List α} {i : Nat} (x : α) (h : i ≤ l.length) : (putL l i x)[i]? = some x := by rw [putL_get x h, if_neg (by omega), if_pos rfl]
theorem getD_some {α : Type} {l : List α} {i : Nat} {d x : α} (h : l[i]? = some x) : l.getD i d = x := by rw [List.getD_eq_getElem?_getD, h]; rfl
theorem some_getD {α : Type} {l : List α} {i : Nat} (d : α) (h : i < l.length) : l[i]? = some (l.getD i d) := by rw [List.getD_eq_getElem?_getD, List.getElem?_eq_getElem h]; rfl
/-- Moved there and back. -/
theorem move_back {α : Type} {l : List α} {i k : Nat} (d : α) (hi : i < l.length) (hk : k < l.length) : putL (dropL (putL (dropL l i) k (l.getD i d)) k) i ((putL (dropL l i) k (l.getD i d)).getD k d) = l := by
  have h1 : k ≤ (dropL l i).length := by rw [dropL_length hi]; omega
  rw [dropL_putL _ h1, getD_some (putL_at _ h1), putL_dropL (some_getD d hi)]
theorem xIn2_of {a b : Int} {n m : Nat} (h : 0 ≤ a ∧ a < (n : Int)) (g : 0 ≤ b ∧ b < (m : Int)) : xIn2 a n b m = 0 := if_pos ⟨h, g⟩
theorem map_same {α : Type} {f : α → α} {l : List α} (h : ∀ x ∈ l, f x = x) : l.map f = l := by
  rw [List.map_congr_left (g := id) (by simpa using h), List.map_id]
theorem movec_f (hd : List ByteArray) (rows : List (List ByteArray)) (a b : Int) (h : okE hd rows = true) : edit_MoveCol.f hd rows a b = some (madeT hd rows (xIn2 a hd.length b hd.length) (putL (dropL hd a.toNat) b.toNat (hd.getD a.toNat ByteArray.empty)) (rows.map fun l => putL (dropL l a.toNat) b.toNat (l.getD a.toNat ByteArray.empty))) := by
  unfold edit_MoveCol.f; rw [h]; rfl
theorem mover_f (hd : List ByteArray) (rows : List (List ByteArray)) (a b : Int) (h : okE hd rows = true) : edit_MoveRow.f hd rows a b = some (madeT hd rows (xIn2 a rows.length b rows.length) hd (putL (dropL rows a.toNat) b.toNat (rows.getD a.toNat []))) := by
  unfold edit_MoveRow.f; rw [h]; rfl
theorem same_f (a : List ByteArray) (b : List (List ByteArray)) (c : List ByteArray) (d : List (List ByteArray)) (h1 : a = c) (h2 : b = d) : table_Same.f a b c d = some true := by
  subst h1; subst h2
  unfold table_Same.f
  simp
theorem okS_drop {l : List ByteArray} (h : okS l) (i : Nat) : okS (dropL l i) := fun s hs => h s (mem_dropL hs)
theorem okS_put {l : List ByteArray} (h : okS l) (i : Nat) {x : ByteArray} (hx : x.size ≤ maxLen) : okS (putL l i x) := fun s hs => by
  rcases mem_putL hs with e | e
  · rw [e]; exact hx
  · exact h s e
theorem okS_getD {l : List ByteArray} (h : okS l) (i : Nat) : (l.getD i ByteArray.empty).size ≤ maxLen := by
  rcases Nat.lt_or_ge i l.length with hi | hi
  · exact h _ (getD_mem hi)
  · rw [List.getD_eq_getElem?_getD, List.getElem?_eq_none hi]
    exact Nat.zero_le _
end Go.Proofs.Ytaolakknkhggnaa.X
end
section
namespace Go.Proofs.Ytaolakknkhggnaa.X
open Go.RowKit Go.Proofs.YtaolakknkhggnaaW.PrintWords
set_option linter.unusedVariables false
theorem moves_j0 (hd : List ByteArray) (rows : List (List ByteArray)) (s : Sm hd rows) (hs : okS hd) (a b : Int) {k : Nat} : tartanlaw05_EditMoves.j0 (k + 1) a b true hd rows = some true := by
  have hE := s.okE hs
  simp only [tartanlaw05_EditMoves.j0]
  rw [mover_f _ _ _ _ hE, Option.bind_some]
  by_cases e : (madeT hd rows (xIn2 a rows.length b rows.length) hd (putL (dropL rows a.toNat) b.toNat (rows.getD a.toNat []))).2.2 = 0
  · obtain ⟨h1, h2, h3, h4⟩ := made_ok e
    obtain ⟨⟨ha, ha2⟩, ⟨hb, hb2⟩⟩ := xIn2_zero h2
    have hl : (putL (dropL rows a.toNat) b.toNat (rows.getD a.toNat [])).length = rows.length := by rw [len_putL, dropL_length (by omega)]; omega
    rw [if_pos e, h4]
    dsimp only
    rw [mover_f _ _ _ _ (okE_mk (by have := s.h; omega) (by have := s.r; omega) hs), Option.bind_some, hl, move_back [] (by omega) (by omega), made_of h3 (xIn2_of ⟨hb, hb2⟩ ⟨ha, ha2⟩) h1]
    simp only [if_true]
    rw [same_f _ _ _ _ rfl rfl, Option.bind_some]
    simp
  · rw [if_neg e, (made_bad e).1]
    simp
theorem pure_EditMoves : ∀ (x0 : S25) (x1 : Int) (x2 : Int), okT25 x0 → okT3 x1 → okT3 x2 → ∃ k, tartanlaw05_EditMoves.f k x0.f0 x0.f1 x1 x2 = some true := by
  intro x0 a b o0 o1 o2
  obtain ⟨hd, rows⟩ := x0
  obtain ⟨k, hk⟩ := fuel05
  refine ⟨k + 1, ?_⟩
  unfold tartanlaw05_EditMoves.f
  rw [show tartanlaw05_works.f = some true from rfl, Option.bind_some, if_pos rfl]
  obtain ⟨q, e, hq⟩ := fewE hd rows (k := k + 1) (by omega)
  dsimp only
  rw [e, Option.bind_some]
  cases q with
  | false => simp
  | true =>
    have s := hq rfl
    have hs : okS hd := o0.1.2
    rw [if_pos rfl, movec_f _ _ _ _ (s.okE hs), Option.bind_some, moves_j0 hd rows s hs]
    by_cases e : (madeT hd rows (xIn2 a hd.length b hd.length) (putL (dropL hd a.toNat) b.toNat (hd.getD a.toNat ByteArray.empty)) (rows.map fun l => putL (dropL l a.toNat) b.toNat (l.getD a.toNat ByteArray.empty))).2.2 = 0
    · obtain ⟨h1, h2, h3, h4⟩ := made_ok e
      obtain ⟨⟨ha, ha2⟩, ⟨hb, hb2⟩⟩ := xIn2_zero h2
      have hrow := rows_of_check h1
      have hl : (putL (dropL hd a.toNat) b.toNat (hd.getD a.toNat ByteArray.empty)).length = hd.length := by rw [len_putL, dropL_length (by omega)]; omega
      have hr : ((rows.map fun l => putL (dropL l a.toNat) b.toNat (l.getD a.toNat ByteArray.empty)).map fun l => putL (dropL l b.toNat) a.toNat (l.getD b.toNat ByteArray.empty)) = rows := by
        rw [List.map_map]
        refine map_same fun x hx => ?_
        have hxl := hrow x (.inr hx)
        exact move_back ByteArray.empty (by omega) (by omega)
      have hat : (putL (dropL hd a.toNat) b.toNat (hd.getD a.toNat ByteArray.empty)).getD b.toNat ByteArray.empty = hd.getD a.toNat ByteArray.empty := getD_some (putL_at _ (by rw [dropL_length (by omega)]; omega))
      rw [if_pos e, h4]
      dsimp only
      rw [movec_f _ _ _ _ (okE_mk (by have := s.h; omega) (by have := s.r; rw [List.length_map]; omega) (okS_put (okS_drop hs _) _ (okS_getD hs _))), Option.bind_some, hl, hr, move_back ByteArray.empty (by omega) (by omega), made_of h3 (xIn2_of ⟨hb, hb2⟩ ⟨ha, ha2⟩) h1]
      simp only [if_true]
      rw [same_f _ _ _ _ rfl rfl, Option.bind_some, if_pos rfl, if_pos hb, if_pos hb2, if_pos ha, if_pos ha2]
      show (if ((putL (dropL hd a.toNat) b.toNat (hd.getD a.toNat ByteArray.empty)).getD b.toNat ByteArray.empty).toList = (hd.getD a.toNat ByteArray.empty).toList then some true else some false) = some true
      rw [hat, if_pos rfl]
    · rw [if_neg e]
end Go.Proofs.Ytaolakknkhggnaa.X
end
