/- LcsSame over plain lists: a list against itself, and against itself without one element. -/
import Derived.Test.YtimchoebiadhmaaPLcsRef
import Derived.Test.YtimchoebiadhmaaX16
namespace Go.Proofs.Ytimchoebiadhmaa.X
open Go.RowKit Go.Proofs.YtimchoebiadhmaaW.PrintWords
theorem lcsSame_j1 (a : List ByteArray) (j : Int) (ha : a.length ≤ 60) (h0 : 0 ≤ j) (h1 : j < (a.length : Int)) (k : Nat) : tartanlaw08_LcsSame.j1 (k + 1) a j true false = some true := by
  simp only [tartanlaw08_LcsSame.j1]
  have hs : (a.take j.toNat ++ a.drop (j + 1).toNat).Sublist a := by
    have e : a = a.take j.toNat ++ a.drop j.toNat := (List.take_append_drop _ _).symm
    conv => rhs; rw [e]
    refine List.Sublist.append_left ?_ _
    exact List.drop_sublist_drop_left a (by omega)
  have hl : (a.take j.toNat ++ a.drop (j + 1).toNat).length = a.length - 1 := by rw [List.length_append, List.length_take, List.length_drop]; omega
  have e2 := lcsL_sub hs
  have e3 : lcsL (a.take j.toNat ++ a.drop (j + 1).toNat) a = a.length - 1 := by rw [lcsL_symm, e2, hl]
  rw [if_neg (by decide), Option.bind_some, if_pos h0, if_pos (by omega), if_pos (by rw [List.length_take, List.length_nil]; omega), Option.bind_some, wrap_in8 (n := j + 1) (by omega) (by omega), if_pos (by omega), if_pos (by omega),
    if_pos (by rw [List.length_append, List.length_take, List.length_drop, List.length_nil]; omega), Option.bind_some, if_pos trivial, List.nil_append, length_some (by omega) (by omega), Option.bind_some, wrap_in8 (n := (a.length : Int) - 1) (by omega) (by omega), e2, hl,
    if_pos (by omega), length_some (by omega) (by omega), Option.bind_some, e3]
  congr 1
  rw [beq_iff_eq]; omega
theorem lcsSame_l0 (a : List ByteArray) (j : Int) (ha : a.length ≤ 60) : ∀ (d k t : Nat), t + d = a.length → d + 1 < k → tartanlaw08_LcsSame.l0 k a j true (((List.range' 0 a.length).map fun t => (t, t)).map pairS) (t : Nat) = some true := by
  intro d
  induction d with
  | zero =>
    intro k t ht hk
    obtain ⟨k, rfl⟩ : ∃ m, k = m + 2 := ⟨k - 2, by omega⟩
    simp only [tartanlaw08_LcsSame.l0]
    rw [if_neg (by simp; omega)]
    by_cases c : j < 0
    · rw [if_pos c]; rfl
    · rw [if_neg c]
      by_cases c2 : j ≥ (a.length : Int)
      · rw [decide_eq_true c2]; rfl
      · rw [decide_eq_false c2]
        exact lcsSame_j1 a j ha (by omega) (by omega) k
  | succ d ih =>
    intro k t ht hk
    obtain ⟨k, rfl⟩ : ∃ m, k = m + 1 := ⟨k - 1, by omega⟩
    have hp : ((List.range' 0 a.length).map fun t => (t, t))[t]? = some (t, t) := by
      rw [List.getElem?_map, List.getElem?_eq_getElem (by simp; omega)]; simp
    simp only [tartanlaw08_LcsSame.l0]
    rw [rdS_map _ t _ hp, if_pos (by simp; omega), if_pos (by omega), show (pairS (t, t)).f0 = (t : Int) from rfl, show (pairS (t, t)).f1 = (t : Int) from rfl, if_pos rfl, if_pos rfl, show wrap64 ((t : Int) + 1) = ((t + 1 : Nat) : Int) from by rw [wrap_in8 (by omega) (by omega)]; omega]
    exact ih k (t + 1) (by omega) (by omega)
theorem pure_LcsSame : ∀ (x0 : List (ByteArray)) (x1 : Int), okT22 x0 → okT3 x1 → ∃ k, tartanlaw08_LcsSame.f k x0 x1 = some true := by
  intro a j _ _
  refine ⟨400, ?_⟩
  unfold tartanlaw08_LcsSame.f
  rw [lcs_works (by omega), Option.bind_some, if_pos rfl]
  by_cases c : a.length ≤ 60
  · rw [if_neg (by omega), pairs_some (by omega) (by omega), Option.bind_some, lcsP_self, if_pos (by simp)]
    exact lcsSame_l0 a j c a.length 400 0 (Nat.zero_add _) (by omega)
  · rw [if_pos (by omega)]
end Go.Proofs.Ytimchoebiadhmaa.X
