/- What two lists have in common, as a number of plain lists: order, turns, more. No program here. -/
import Derived.Test.YtimchoebiadhmaaGBag
namespace Go.Proofs.Ytimchoebiadhmaa.X
open Go.Proofs.YtimchoebiadhmaaW.PrintWords

section
variable {α : Type} [BEq α] [LawfulBEq α]
/-- How many of a are in b, each of b's used once. -/
def ov2 : List α → List α → Nat
  | [], _ => 0
  | s :: a, b => if s ∈ b then ov2 a (b.erase s) + 1 else ov2 a b

theorem ov2_permR : ∀ (a : List α) {b b' : List α}, b.Perm b' → ov2 a b = ov2 a b'
  | [], _, _, _ => rfl
  | s :: a, b, b', h => by
    unfold ov2
    by_cases hs : s ∈ b
    · rw [if_pos hs, if_pos (h.mem_iff.1 hs), ov2_permR a (h.erase s)]
    · rw [if_neg hs, if_neg (fun k => hs (h.mem_iff.2 k)), ov2_permR a h]

theorem ov2_swap (x y : α) (a b : List α) : ov2 (x :: y :: a) b = ov2 (y :: x :: a) b := by
  by_cases e : x = y
  · rw [e]
  · have h1 : y ∈ b.erase x ↔ y ∈ b := List.mem_erase_of_ne (fun k => e k.symm)
    have h2 : x ∈ b.erase y ↔ x ∈ b := List.mem_erase_of_ne e
    simp only [ov2]
    by_cases hx : x ∈ b <;> by_cases hy : y ∈ b <;> simp [hx, hy, h1, h2, List.erase_comm x y (l := b)]

theorem ov2_permL {a a' : List α} (h : a.Perm a') : ∀ b, ov2 a b = ov2 a' b := by
  induction h with
  | nil => intro b; rfl
  | cons x _ ih => intro b; simp only [ov2, ih]
  | swap x y l => intro b; exact ov2_swap y x l b
  | trans _ _ ih1 ih2 => intro b; rw [ih1, ih2]

theorem ov2_consR (s : α) : ∀ (a b : List α), ov2 a (s :: b) = if s ∈ a then ov2 (a.erase s) b + 1 else ov2 a b := by
  intro a b
  by_cases h : s ∈ a
  · rw [if_pos h, ov2_permL (List.perm_cons_erase h) (s :: b)]
    simp only [ov2]
    rw [if_pos List.mem_cons_self, List.erase_cons_head]
  · rw [if_neg h]
    induction a generalizing b with
    | nil => rfl
    | cons t a ih =>
      have hne : t ≠ s := fun e => h (by rw [e]; exact List.mem_cons_self)
      have hs : s ∉ a := fun k => h (List.mem_cons_of_mem _ k)
      simp only [ov2]
      by_cases ht : t ∈ b
      · rw [if_pos (List.mem_cons_of_mem _ ht), if_pos ht, List.erase_cons_tail (by simpa using fun e => hne e.symm), ih _ hs]
      · rw [if_neg (fun k => by rcases List.mem_cons.1 k with k | k; exact hne k; exact ht k), if_neg ht, ih _ hs]

theorem ov2_symm : ∀ (a b : List α), ov2 a b = ov2 b a
  | a, [] => by
    induction a with
    | nil => rfl
    | cons s a ih => simp only [ov2]; rw [if_neg (by simp), ih]; rfl
  | a, s :: b => by
    rw [ov2_consR]
    conv => rhs; unfold ov2
    by_cases h : s ∈ a
    · rw [if_pos h, if_pos h, ov2_symm _ b]
    · rw [if_neg h, if_neg h, ov2_symm _ b]

theorem ov2_le : ∀ (a b : List α), ov2 a b ≤ a.length
  | [], _ => Nat.le_refl _
  | s :: a, b => by
    simp only [ov2, List.length_cons]
    have h1 := ov2_le a b
    have h2 := ov2_le a (b.erase s)
    split <;> omega
theorem ov2_le' (a b : List α) : ov2 a b ≤ b.length := by rw [ov2_symm]; exact ov2_le b a
theorem ov2_self : ∀ a : List α, ov2 a a = a.length
  | [] => rfl
  | s :: a => by simp only [ov2]; rw [if_pos List.mem_cons_self, List.erase_cons_head, ov2_self a]; rfl

theorem ov2_snoc (s : α) : ∀ (a b : List α), ov2 (a ++ [s]) b = ov2 a b + if a.count s < b.count s then 1 else 0
  | [], b => by
    simp only [List.nil_append, ov2, List.count_nil, List.count_pos_iff]
    split <;> rfl
  | t :: a, b => by
    simp only [List.cons_append, ov2]
    by_cases ht : t ∈ b
    · rw [if_pos ht, if_pos ht, ov2_snoc s a, List.count_erase, List.count_cons]
      have hp : 0 < b.count t := List.count_pos_iff.2 ht
      by_cases e : t = s
      · subst e
        simp
        have : (a.count t < b.count t - 1) ↔ (a.count t + 1 < b.count t) := by omega
        simp only [this]
        omega
      · simp [e]; omega
    · rw [if_neg ht, if_neg ht, ov2_snoc s a, List.count_cons]
      by_cases e : t = s
      · subst e
        have : b.count t = 0 := List.count_eq_zero.2 ht
        simp [this]
      · simp [e]
theorem ov2_cons (s : α) (a b : List α) : ov2 (s :: a) b = ov2 a b + if a.count s < b.count s then 1 else 0 := by
  rw [← ov2_snoc]; exact ov2_permL (List.perm_append_singleton s a).symm b
theorem ov2_both (s : α) (a b : List α) : ov2 (s :: a) (b ++ [s]) = ov2 a b + 1 := by
  rw [ov2_permR _ (List.perm_append_singleton s b)]
  simp only [ov2]
  rw [if_pos List.mem_cons_self, List.erase_cons_head]
end

/-- Texts as lists of bytes. -/
abbrev BT (a : List ByteArray) : List (List UInt8) := a.map bts
theorem str_eq' {x y : ByteArray} : x.toList = y.toList ↔ x = y := by
  rw [ByteArray.toList_eq, ByteArray.toList_eq]
  exact ⟨fun h => ByteArray.ext (Array.toList_inj.mp h), fun h => by rw [h]⟩
theorem bts_inj {x y : ByteArray} (h : bts x = bts y) : x = y := ByteArray.ext (Array.toList_inj.mp h)
theorem cnt_count (l : List ByteArray) (k : List UInt8) : cnt l k = (BT l).count k := by
  induction l with
  | nil => rfl
  | cons s l ih =>
    have : cnt (s :: l) k = cnt l k + if bts s = k then 1 else 0 := by
      unfold cnt
      by_cases h : bts s = k <;> simp [h]
    rw [this, ih]; simp only [BT, List.map_cons]; rw [List.count_cons]
    by_cases h : bts s = k <;> simp [h]
theorem ovl_ov2 : ∀ (a : List ByteArray) (b : List (List UInt8)), ovl a (fun k => (b.count k : Nat)) = (ov2 (BT a) b : Nat)
  | [], _ => rfl
  | s :: a, b => by
    simp only [BT, List.map_cons, ov2]
    by_cases h : bts s ∈ b
    · have hp : 0 < b.count (bts s) := List.count_pos_iff.2 h
      rw [ovl_yes (by omega), if_pos h]
      have e : (fun k => if k = bts s then ((b.count k : Nat) : Int) - 1 else (b.count k : Nat)) = fun k => (((b.erase (bts s)).count k : Nat) : Int) := by
        funext k
        rw [List.count_erase]
        by_cases e : k = bts s
        · subst e; simp; omega
        · have e' : ¬ bts s = k := fun h => e h.symm
          simp [e, e']
      rw [e, ovl_ov2 a]; simp [BT]
    · have h0 : b.count (bts s) = 0 := List.count_eq_zero.2 h
      rw [ovl_no (by rw [h0]; decide), if_neg h, ovl_ov2 a]
theorem ovl_eq (a b : List ByteArray) : ovl a (fun k => cnt b k) = (ov2 (BT a) (BT b) : Nat) := by
  have : (fun k => ((cnt b k : Nat) : Int)) = fun k => (((BT b).count k : Nat) : Int) := by funext k; rw [cnt_count]
  rw [this, ovl_ov2]

theorem overlap_some {a b : List ByteArray} (ha : okS a = true) (hb : okS b = true) : bag_Overlap.f a b = some ((ov2 (BT a) (BT b) : Nat) : Int) := by
  unfold bag_Overlap.f
  rw [ha, hb, if_pos (by rfl), ovl_eq]
theorem count_some {a : List ByteArray} {s : ByteArray} (ha : okS a = true) (hs : s.size ≤ maxLen) : bag_Count.f a s = some (((BT a).count (bts s) : Nat) : Int) := by
  unfold bag_Count.f
  rw [ha, if_pos (by simpa using hs), cnt_count]
theorem okS_mk {a : List ByteArray} (hl : a.length ≤ 100000) (hs : ∀ s ∈ a, s.size ≤ maxLen) : okS a = true := by
  simp only [okS, Bool.and_eq_true, decide_eq_true_eq, List.all_eq_true]
  exact ⟨hl, hs⟩
end Go.Proofs.Ytimchoebiadhmaa.X
