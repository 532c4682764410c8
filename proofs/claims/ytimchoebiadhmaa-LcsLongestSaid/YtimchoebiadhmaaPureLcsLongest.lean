/- LcsLongest over plain lists: no row that both have in common is longer. -/
import Derived.Test.YtimchoebiadhmaaPLcsRef
import Derived.Test.YtimchoebiadhmaaX14
namespace Go.Proofs.Ytimchoebiadhmaa.X
open Go.RowKit Go.Proofs.YtimchoebiadhmaaW.PrintWords
structure Valid (a b : List ByteArray) (x : List S34) (u : Nat) : Prop where
  h0 : 0 ≤ (rd_T34 x (u : Int)).f0
  h1 : (rd_T34 x (u : Int)).f0 < (a.length : Int)
  h2 : 0 ≤ (rd_T34 x (u : Int)).f1
  h3 : (rd_T34 x (u : Int)).f1 < (b.length : Int)
  h4 : rdOf ByteArray.empty a (rd_T34 x (u : Int)).f0 = rdOf ByteArray.empty b (rd_T34 x (u : Int)).f1
  h5 : ∀ v : Nat, u = v + 1 → (rd_T34 x (v : Int)).f0 < (rd_T34 x (u : Int)).f0 ∧ (rd_T34 x (v : Int)).f1 < (rd_T34 x (u : Int)).f1
theorem valid_le (a b : List ByteArray) (x : List S34) (h : ∀ u, u < x.length → Valid a b x u) : x.length ≤ lcsL a b := by
  have hr : ∀ u (hu : u < x.length), rd_T34 x (u : Int) = x[u] := fun u hu => by
    unfold rd_T34
    rw [show ((u : Int)).toNat = u from rfl, List.getD_eq_getElem?_getD, List.getElem?_eq_getElem hu]; rfl
  have hg : Good a b 0 0 (x.map fun s => (s.f0.toNat, s.f1.toNat)) := by
    refine Good.of_at (fun t p hp => ?_) (fun p _ => ⟨Nat.zero_le _, Nat.zero_le _⟩)
    rw [List.getElem?_map] at hp
    have ht : t < x.length := by
      rcases Nat.lt_or_ge t x.length with h' | h'
      · exact h'
      · rw [List.getElem?_eq_none h'] at hp; cases hp
    rw [List.getElem?_eq_getElem ht] at hp
    obtain rfl := Option.some.inj hp
    have hv := h t ht
    obtain ⟨v0, v1, v2, v3, v4, v5⟩ := hv
    rw [hr t ht] at v0 v1 v2 v3 v4 v5
    refine ⟨by simp; omega, by simp; omega, ?_, fun u q e hq => ?_⟩
    · simp only []
      rw [Int.toNat_of_nonneg v0, Int.toNat_of_nonneg v2]; exact v4
    · subst e
      have hu : u < x.length := by omega
      rw [List.getElem?_map, List.getElem?_eq_getElem hu] at hq
      obtain rfl := Option.some.inj hq
      have g := v5 u rfl
      rw [hr u hu] at g
      have w0 := (h u hu).h0
      have w2 := (h u hu).h2
      rw [hr u hu] at w0 w2
      simp only []
      omega
  have := hg.le
  simpa using this
theorem lcsLongest_l0 (a b : List ByteArray) (ha : a.length ≤ 60) (hb : b.length ≤ 60) (x : List S34) (hx : x.length ≤ 60) : ∀ (d k t : Nat), t + d = x.length → 2 * d < k → (∀ u, u < t → Valid a b x u) →
    tartanlaw08_LcsLongest.l0 k a b x true (t : Nat) = some true := by
  intro d
  induction d with
  | zero =>
    intro k t ht hk hv
    obtain ⟨k, rfl⟩ : ∃ m, k = m + 1 := ⟨k - 1, by omega⟩
    have hle := valid_le a b x (fun u hu => hv u (by omega))
    have hg := (lcsP_good a b _ 0 0 (Nat.le_refl _)).2
    simp only [List.drop_zero] at hg
    simp only [tartanlaw08_LcsLongest.l0]
    rw [if_neg (by omega), if_pos trivial, length_some (by omega) (by omega), Option.bind_some, if_pos (by omega), pairs_some (by omega) (by omega), Option.bind_some, List.length_map, hg, decide_eq_true (by omega)]
  | succ d ih =>
    intro k t ht hk hv
    obtain ⟨k, rfl⟩ : ∃ m, k = m + 2 := ⟨k - 2, by omega⟩
    have hnext : Valid a b x t → tartanlaw08_LcsLongest.l0 k a b x true ((t + 1 : Nat) : Int) = some true := fun h => ih k (t + 1) (by omega) (by omega) (fun u hu => by
      rcases Nat.lt_or_ge u t with h' | h'
      · exact hv u h'
      · obtain rfl : u = t := by omega
        exact h)
    simp only [tartanlaw08_LcsLongest.l0, tartanlaw08_LcsLongest.j2]
    rw [if_pos (by omega), if_pos (by omega)]
    rw [show wrap64 ((t : Int) + 1) = ((t + 1 : Nat) : Int) from by rw [wrap_in8 (by omega) (by omega)]; omega]
    by_cases c0 : (rd_T34 x (t : Int)).f0 < 0
    · rw [if_pos c0, if_pos trivial]
    by_cases c1 : (rd_T34 x (t : Int)).f0 ≥ (a.length : Int)
    · rw [if_neg c0, if_pos c1, if_pos trivial]
    by_cases c2 : (rd_T34 x (t : Int)).f1 < 0
    · rw [if_neg c0, if_neg c1, if_pos c2, if_pos trivial]
    by_cases c3 : (rd_T34 x (t : Int)).f1 ≥ (b.length : Int)
    · rw [if_neg c0, if_neg c1, if_neg c2, if_pos c3, if_pos trivial]
    rw [if_neg c0, if_neg c1, if_neg c2, if_neg c3, if_pos (by omega), if_pos (by omega), if_pos (by omega), if_pos (by omega)]
    by_cases e : rdOf ByteArray.empty a (rd_T34 x (t : Int)).f0 = rdOf ByteArray.empty b (rd_T34 x (t : Int)).f1
    · have hb0 : ((rdOf ByteArray.empty a (rd_T34 x (t : Int)).f0).toList != (rdOf ByteArray.empty b (rd_T34 x (t : Int)).f1).toList) = false := by rw [e]; simp
      rw [hb0, if_neg (by decide)]
      by_cases c : 0 < t
      · obtain ⟨u, rfl⟩ : ∃ u, t = u + 1 := ⟨t - 1, by omega⟩
        rw [show wrap64 (((u + 1 : Nat) : Int) - 1) = (u : Int) from by rw [wrap_in8 (by omega) (by omega)]; omega]
        rw [if_pos (by omega), if_pos (by omega), if_pos (by omega)]
        by_cases d0 : (rd_T34 x ((u + 1 : Nat) : Int)).f0 ≤ (rd_T34 x (u : Int)).f0
        · rw [if_pos d0]
        by_cases d1 : (rd_T34 x ((u + 1 : Nat) : Int)).f1 ≤ (rd_T34 x (u : Int)).f1
        · rw [if_neg d0, if_pos d1]
        rw [if_neg d0, if_neg d1]
        exact hnext ⟨by omega, by omega, by omega, by omega, e, fun v hv' => by rw [show v = u from by omega]; exact ⟨by omega, by omega⟩⟩
      · rw [if_neg (by omega)]
        exact hnext ⟨by omega, by omega, by omega, by omega, e, fun v hv' => by omega⟩
    · have hb0 : ((rdOf ByteArray.empty a (rd_T34 x (t : Int)).f0).toList != (rdOf ByteArray.empty b (rd_T34 x (t : Int)).f1).toList) = true := by
        rw [bne_iff_ne]; exact fun h => e (str_eq.1 h)
      rw [hb0, if_pos rfl]
theorem pure_LcsLongest : ∀ (x0 : List (ByteArray)) (x1 : List (ByteArray)) (x2 : List (S34)), okT22 x0 → okT22 x1 → okT31 x2 → ∃ k, tartanlaw08_LcsLongest.f k x0 x1 x2 = some true := by
  intro a b x _ _ _
  refine ⟨400, ?_⟩
  unfold tartanlaw08_LcsLongest.f
  rw [lcs_works (by omega), Option.bind_some, if_pos rfl, small_some, Option.bind_some]
  by_cases c : a.length ≤ 60 ∧ b.length ≤ 60
  · rw [if_pos (decide_eq_true c)]
    by_cases c2 : x.length ≤ 60
    · rw [decide_eq_false (by omega)]
      simp only [tartanlaw08_LcsLongest.j0]
      rw [if_neg (by decide)]
      exact lcsLongest_l0 a b c.1 c.2 x c2 x.length _ 0 (Nat.zero_add _) (by omega) (fun u hu => by omega)
    · rw [decide_eq_true (by omega)]; rfl
  · rw [if_neg (by simpa using c)]; rfl
end Go.Proofs.Ytimchoebiadhmaa.X
