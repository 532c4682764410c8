/- A chain as a list: what stands behind what, and which one is the last. Plain. -/
import Derived.Test.YthdfgkbfjpadbaaGMap
namespace Go.Proofs.Ythdfgkbfjpadbaa.X
open Go.RowKit Go.Proofs.Ythdfgkbfjpadbaa.GMap
set_option linter.unusedVariables false
def lastV (L : List Int) (x : Int) : Int := if x ∈ L then (if L.getLast? = some x then 2 else 1) else 0
def Linked (fn : Int → Option Int) : List Int → Prop
  | [] => True
  | [_] => True
  | a :: b :: r => (fn a).getD 0 = b ∧ Linked fn (b :: r)
structure Good (L : List Int) (fn fl : Int → Option Int) : Prop where
  nd : L.Nodup
  last : ∀ x, (fl x).getD 0 = lastV L x
  next : Linked fn L
def insB : List Int → Int → Int → List Int
  | [], _, _ => []
  | y :: r, a, x => if y = a then y :: x :: r else y :: insB r a x
def putL (L : List Int) (x a : Int) (front : Bool) : List Int := if L = [] then [x] else if front = true then x :: L else insB L a x
theorem upd_same {f : Int → Option Int} {y : Int} {v : Int} : upd f y v y = some v := if_pos rfl
theorem upd_ne {f : Int → Option Int} {y z : Int} {v : Int} (h : z ≠ y) : upd f y v z = f z := if_neg h
theorem linked_split {fn : Int → Option Int} : ∀ {A : List Int} {a : Int} {B : List Int}, Linked fn (A ++ a :: B) ↔ Linked fn (A ++ [a]) ∧ Linked fn (a :: B)
  | [], a, B => by simp [Linked]
  | [c], a, B => by simp [Linked]
  | c :: d :: r, a, B => by
    have h := linked_split (fn := fn) (A := d :: r) (a := a) (B := B)
    simp only [List.cons_append, Linked] at h ⊢
    rw [h]; exact and_assoc.symm
theorem linked_congr {fn fn' : Int → Option Int} : ∀ {A : List Int} {a : Int}, (∀ y ∈ A, fn y = fn' y) → Linked fn (A ++ [a]) → Linked fn' (A ++ [a])
  | [], a, _, h => h
  | [c], a, he, h => by
    simp only [List.cons_append, List.nil_append, Linked] at h ⊢
    rw [← he c (by simp)]; exact h
  | c :: d :: r, a, he, h => by
    have ih := linked_congr (fn := fn) (fn' := fn') (A := d :: r) (a := a) (fun y hy => he y (List.mem_cons_of_mem _ hy))
    simp only [List.cons_append, Linked] at h ih ⊢
    rw [← he c (by simp)]
    exact ⟨h.1, ih h.2⟩
theorem linked_all {fn fn' : Int → Option Int} {L : List Int} (he : ∀ y ∈ L, fn y = fn' y) (h : Linked fn L) : Linked fn' L := by
  rcases List.eq_nil_or_concat L with rfl | ⟨A, a, rfl⟩
  · trivial
  · rw [List.concat_eq_append] at *
    exact linked_congr (fun y hy => he y (by simp [hy])) h
theorem insB_eq : ∀ {L : List Int} {a : Int} (x : Int), a ∈ L → ∃ A B, L = A ++ a :: B ∧ insB L a x = A ++ a :: x :: B
  | y :: r, a, x, h => by
    by_cases e : y = a
    · subst e
      exact ⟨[], r, rfl, by simp [insB]⟩
    · obtain ⟨A, B, h1, h2⟩ := insB_eq x ((List.mem_cons.1 h).resolve_left (fun h => e h.symm))
      exact ⟨y :: A, B, by rw [h1]; rfl, by simp only [insB, if_neg e, h2]; rfl⟩
theorem lastV_two {L : List Int} {x : Int} (h : lastV L x = 2) : L.getLast? = some x := by
  unfold lastV at h
  split at h
  · split at h
    · assumption
    · cases h
  · cases h
theorem good_one {fn fl : Int → Option Int} {x : Int} (h : Good [] fn fl) : Good [x] fn (upd (upd fl x 1) x 2) := by
  refine ⟨by simp, fun y => ?_, trivial⟩
  by_cases e : y = x
  · subst e; rw [upd_same]; simp [lastV]
  · rw [upd_ne e, upd_ne e, h.last]; simp [lastV, e]
theorem good_front {fn fl : Int → Option Int} {x c : Int} {L : List Int} (h : Good (c :: L) fn fl) (hx : x ∉ c :: L) : Good (x :: c :: L) (upd fn x c) (upd fl x 1) := by
  refine ⟨List.nodup_cons.2 ⟨hx, h.nd⟩, fun y => ?_, ?_⟩
  · by_cases e : y = x
    · subst e
      have h1 : (y :: c :: L).getLast? ≠ some y := by
        intro h2
        rw [List.getLast?_cons_cons] at h2
        exact hx (List.mem_of_getLast? h2)
      rw [upd_same]
      unfold lastV
      rw [if_pos (by simp), if_neg h1]; rfl
    · rw [upd_ne e, h.last]; unfold lastV; rw [List.getLast?_cons_cons]; simp [e]
  · exact ⟨by rw [upd_same]; rfl, linked_all (fun y hy => (upd_ne (fun e => by subst e; exact hx hy)).symm) h.next⟩
theorem good_end {fn fl : Int → Option Int} {x a : Int} {L : List Int} (h : Good L fn fl) (hx : x ∉ L) (ha : L.getLast? = some a) : Good (insB L a x) (upd fn a x) (upd (upd (upd fl x 1) a 1) x 2) := by
  obtain ⟨A, B, h1, h2⟩ := insB_eq x (List.mem_of_getLast? ha)
  have hn := h.nd
  have hnx := h.next
  rw [h1] at hn hnx
  have hB : B = [] := by
    rcases List.eq_nil_or_concat B with rfl | ⟨C, c, rfl⟩
    · rfl
    · rw [h1, List.concat_eq_append] at ha
      rw [List.concat_eq_append] at hn
      have h3 : (A ++ a :: (C ++ [c])).getLast? = some c := by rw [← List.cons_append, ← List.append_assoc, List.getLast?_concat]
      rw [h3] at ha
      injection ha with ha
      subst ha
      rw [List.nodup_append] at hn
      have := (List.nodup_cons.1 hn.2.1).1
      exact absurd (by simp) this
  subst hB
  have hxa : x ≠ a := fun e => hx (by rw [h1, e]; simp)
  rw [h2]
  have hx2 : x ∉ A ++ [a] := by rw [← h1]; exact hx
  have e0 : A ++ [a, x] = (A ++ [a]) ++ [x] := by simp
  refine ⟨?_, fun y => ?_, ?_⟩
  · rw [e0, List.nodup_append]
    exact ⟨hn, by simp, fun y hy z hz e => by simp at hz; subst hz; exact hx2 (e ▸ hy)⟩
  · have hl : (A ++ [a, x]).getLast? = some x := by rw [e0, List.getLast?_concat]
    by_cases e : y = x
    · subst e
      rw [upd_same]
      unfold lastV
      rw [hl]; simp
    · rw [upd_ne e]
      by_cases e2 : y = a
      · subst e2
        rw [upd_same]
        unfold lastV
        rw [hl]; simp [hxa]
      · rw [upd_ne e2, upd_ne e, h.last]
        unfold lastV
        rw [hl, h1]
        have h3 : (A ++ [a]).getLast? = some a := List.getLast?_concat
        rw [h3]
        have e' : ¬ x = y := fun h => e h.symm
        have e2' : ¬ a = y := fun h => e2 h.symm
        simp [e, e2, e', e2']
  · rw [linked_split (A := A) (a := a) (B := [x])]
    refine ⟨linked_congr (fun y hy => (upd_ne (fun e => ?_)).symm) hnx, ⟨by rw [upd_same]; rfl, trivial⟩⟩
    rw [List.nodup_append] at hn
    exact hn.2.2 y hy a (by simp) e
theorem good_ins {fn fl : Int → Option Int} {x a : Int} {L : List Int} (h : Good L fn fl) (hx : x ∉ L) (ha : a ∈ L) (hl : L.getLast? ≠ some a) : Good (insB L a x) (upd (upd fn x ((fn a).getD 0)) a x) (upd fl x 1) := by
  obtain ⟨A, B, h1, h2⟩ := insB_eq x ha
  have hn := h.nd
  have hnx := h.next
  rw [h1] at hn hnx
  have hxa : x ≠ a := fun e => hx (by rw [h1, e]; simp)
  obtain ⟨b, C, rfl⟩ : ∃ b C, B = b :: C := by
    cases B with
    | nil => exact absurd (by rw [h1]; exact List.getLast?_concat) hl
    | cons b C => exact ⟨b, C, rfl⟩
  rw [h2]
  have hgl : (A ++ a :: x :: b :: C).getLast? = L.getLast? := by
    rw [h1]
    have e1 : A ++ a :: x :: b :: C = (A ++ [a, x]) ++ (b :: C) := by simp
    have e2 : A ++ a :: b :: C = (A ++ [a]) ++ (b :: C) := by simp
    have e3 : ∀ Z : List Int, (Z ++ (b :: C)).getLast? = (b :: C).getLast? := by
      intro Z
      rw [List.getLast?_append]
      cases h9 : (b :: C).getLast? with
      | none => simp at h9
      | some z => rfl
    rw [e1, e2, e3, e3]
  have hxL : x ∉ A ++ a :: b :: C := by rw [← h1]; exact hx
  have hmem : ∀ y, y ∈ A ++ a :: x :: b :: C ↔ y = x ∨ y ∈ A ++ a :: b :: C := by
    intro y
    simp only [List.mem_append, List.mem_cons]
    constructor
    · rintro (h | h | h | h) <;> simp [h]
    · rintro (h | h | h | h) <;> simp [h]
  refine ⟨?_, fun y => ?_, ?_⟩
  · rw [List.nodup_append] at hn ⊢
    obtain ⟨n1, n2, n3⟩ := hn
    have n4 := List.nodup_cons.1 n2
    refine ⟨n1, List.nodup_cons.2 ⟨?_, List.nodup_cons.2 ⟨?_, n4.2⟩⟩, fun y hy z hz e => ?_⟩
    · intro h; rcases List.mem_cons.1 h with h | h
      · exact hxa h.symm
      · exact n4.1 h
    · intro h; exact hxL (by simp only [List.mem_append, List.mem_cons] at h ⊢; exact .inr (.inr h))
    · rcases List.mem_cons.1 hz with h | h
      · exact n3 y hy z (by rw [h]; simp) e
      · rcases List.mem_cons.1 h with h | h
        · subst e; subst h; exact hxL (by simp [hy])
        · exact n3 y hy z (List.mem_cons_of_mem _ h) e
  · by_cases e : y = x
    · subst e
      rw [upd_same]
      unfold lastV
      rw [if_pos ((hmem y).2 (.inl rfl)), hgl, if_neg]
      · rfl
      · intro h3; exact hx (List.mem_of_getLast? h3)
    · rw [upd_ne e, h.last]
      unfold lastV
      rw [hgl]
      have : (y ∈ A ++ a :: x :: b :: C) ↔ y ∈ L := by rw [hmem, h1]; simp [e]
      simp only [this]
  · rw [List.nodup_append] at hn
    obtain ⟨n1, n2, n3⟩ := hn
    have n4 := List.nodup_cons.1 n2
    have hs := linked_split.1 hnx
    rw [linked_split (A := A) (a := a) (B := x :: b :: C)]
    refine ⟨linked_congr (fun y hy => ?_) hs.1, ?_⟩
    · rw [upd_ne (fun e => n3 y hy a (by simp) e), upd_ne (fun e => hxL (by simp [← e, hy]))]
    · have hs2 := hs.2
      simp only [Linked] at hs2 ⊢
      refine ⟨by rw [upd_same]; rfl, ?_, ?_⟩
      · rw [upd_ne hxa, upd_same, Option.getD_some]; exact hs2.1
      · refine linked_all (fun y hy => ?_) hs2.2
        rw [upd_ne (fun e => by subst e; exact n4.1 hy), upd_ne (fun e => by subst e; exact hxL (by simp only [List.mem_append, List.mem_cons]; exact .inr (.inr (List.mem_cons.1 hy))))]
theorem putL_len (L : List Int) (x a : Int) (front : Bool) (h : L = [] ∨ front = true ∨ a ∈ L) : (putL L x a front).length = L.length + 1 := by
  unfold putL
  by_cases h0 : L = []
  · subst h0; simp
  · rw [if_neg h0]
    by_cases h1 : front = true
    · rw [if_pos h1]; rfl
    · rw [if_neg h1]
      obtain ⟨A, B, e1, e2⟩ := insB_eq x ((h.resolve_left h0).resolve_left h1)
      rw [e2, e1]; simp; omega
end Go.Proofs.Ythdfgkbfjpadbaa.X
