/- The reference's counting loops, and the facts that the laws of layer 9 share. -/
import Derived.Test.YtimchoebiadhmaaPBag
import Derived.Test.YtimchoebiadhmaaX3
import Derived.Test.YtimchoebiadhmaaX2
import Derived.Test.YtimchoebiadhmaaROpen
namespace Go.Proofs.Ytimchoebiadhmaa.X
open Go.RowKit Go.Proofs.YtimchoebiadhmaaW.PrintWords

theorem wrap_in {n : Int} (h0 : -1000000000000 ≤ n) (h1 : n ≤ 1000000000000) : wrap64 n = n := by unfold wrap64; omega

theorem bag_works : tartanlaw09_works.f = some true := by decide +kernel

theorem refCount_l0 (l : List ByteArray) (s : ByteArray) (hl : l.length ≤ 100000) : ∀ (d k i : Nat), i + d = l.length → d < k →
    tartanref09_Count.l0 k l s ((BT (l.take i)).count (bts s) : Nat) (i : Nat) = some (((BT l).count (bts s) : Nat) : Int) := by
  intro d
  induction d with
  | zero =>
    intro k i hi hk
    obtain ⟨k, rfl⟩ : ∃ m, k = m + 1 := ⟨k - 1, by omega⟩
    simp only [tartanref09_Count.l0]
    rw [if_neg (by omega), List.take_of_length_le (by omega)]
  | succ d ih =>
    intro k i hi hk
    obtain ⟨k, rfl⟩ : ∃ m, k = m + 1 := ⟨k - 1, by omega⟩
    have hlt : i < l.length := by omega
    have hc : (BT (l.take i)).count (bts s) ≤ 100000 := Nat.le_trans List.count_le_length (by rw [List.length_map, List.length_take]; omega)
    have h2 := ih k (i + 1) (by omega) (by omega)
    simp only [tartanref09_Count.l0]
    rw [if_pos (by omega), if_pos (by omega), wrap_in (n := (i : Int) + 1) (by omega) (by omega)]
    rw [take_rd hlt, BT, List.map_append, List.count_append] at h2
    by_cases e : (rdOf ByteArray.empty l (i : Int)).toList = s.toList
    · rw [if_pos e, wrap_in (by omega) (by omega)]
      rw [str_eq'] at e
      rw [e] at h2
      simpa using h2
    · rw [if_neg e]
      have e' : ¬ bts (rdOf ByteArray.empty l (i : Int)) = bts s := fun h => e (by rw [bts_inj h])
      simpa [List.count_cons, e'] using h2
theorem refCount_some {l : List ByteArray} {s : ByteArray} (hl : l.length ≤ 100000) {k : Nat} (hk : l.length < k) : tartanref09_Count.f k l s = some (((BT l).count (bts s) : Nat) : Int) := by
  have := refCount_l0 l s hl l.length k 0 (by omega) hk
  simpa [tartanref09_Count.f] using this

theorem refOverlap_l0 (a b : List ByteArray) (ha : a.length ≤ 100000) (hb : b.length ≤ 100000) : ∀ (d k i : Nat), i + d = a.length → d + a.length + b.length + 1 < k →
    tartanref09_Overlap.l0 k a b (ov2 (BT (a.take i)) (BT b) : Nat) (i : Nat) = some ((ov2 (BT a) (BT b) : Nat) : Int) := by
  intro d
  induction d with
  | zero =>
    intro k i hi hk
    obtain ⟨k, rfl⟩ : ∃ m, k = m + 1 := ⟨k - 1, by omega⟩
    simp only [tartanref09_Overlap.l0]
    rw [if_neg (by omega), List.take_of_length_le (by omega)]
  | succ d ih =>
    intro k i hi hk
    obtain ⟨k, rfl⟩ : ∃ m, k = m + 1 := ⟨k - 1, by omega⟩
    have hlt : i < a.length := by omega
    have h2 := ih k (i + 1) (by omega) (by omega)
    have hc : ov2 (BT (a.take i)) (BT b) ≤ 100000 := Nat.le_trans (ov2_le _ _) (by rw [List.length_map, List.length_take]; omega)
    simp only [tartanref09_Overlap.l0]
    rw [if_pos (by omega), if_pos (by omega), if_pos (by omega), show ((i : Int)).toNat = i from rfl,
      refCount_some (l := a.take i) (by rw [List.length_take]; omega) (by rw [List.length_take]; omega), Option.bind_some, refCount_some hb (by omega), Option.bind_some, wrap_in (n := (i : Int) + 1) (by omega) (by omega)]
    rw [take_rd hlt, BT, List.map_append, List.map_cons, List.map_nil, ov2_snoc] at h2
    by_cases e : (BT (a.take i)).count (bts (rdOf ByteArray.empty a (i : Int))) < (BT b).count (bts (rdOf ByteArray.empty a (i : Int)))
    · rw [if_pos (by omega), wrap_in (by omega) (by omega)]
      rw [if_pos e] at h2
      exact h2
    · rw [if_neg (by omega)]
      rw [if_neg e] at h2
      exact h2
theorem refOverlap_some {a b : List ByteArray} (ha : a.length ≤ 100000) (hb : b.length ≤ 100000) {k : Nat} (hk : 2 * a.length + b.length + 1 < k) : tartanref09_Overlap.f k a b = some ((ov2 (BT a) (BT b) : Nat) : Int) := by
  have := refOverlap_l0 a b ha hb a.length k 0 (by omega) (by omega)
  simpa [tartanref09_Overlap.f, BT, ov2] using this
theorem bagSame_some {a b : List ByteArray} (ha : okS a = true) (hb : okS b = true) : bag_Same.f a b = some (decide (a.length = b.length ∧ ov2 (BT a) (BT b) = b.length)) := by
  unfold bag_Same.f
  by_cases e : a.length = b.length
  · rw [if_pos (by omega), overlap_some ha hb, Option.bind_some]
    congr 1
    rw [Bool.eq_iff_iff, beq_iff_eq, decide_eq_true_eq]; omega
  · rw [if_neg (by omega)]; simp [e]
theorem refSame_some {a b : List ByteArray} (ha : a.length ≤ 100000) (hb : b.length ≤ 100000) {k : Nat} (hk : 2 * a.length + b.length + 1 < k) : tartanref09_Same.f k a b = some (decide (a.length = b.length ∧ ov2 (BT a) (BT b) = a.length)) := by
  unfold tartanref09_Same.f
  by_cases e : a.length = b.length
  · rw [if_pos (by omega), refOverlap_some ha hb hk, Option.bind_some]
    congr 1
    rw [Bool.eq_iff_iff, beq_iff_eq, decide_eq_true_eq]; omega
  · rw [if_neg (by omega)]; simp [e]
theorem okS_of {a : List ByteArray} (h : okT22 a) (hl : a.length ≤ 100000) : okS a = true := okS_mk hl h.2
end Go.Proofs.Ytimchoebiadhmaa.X
