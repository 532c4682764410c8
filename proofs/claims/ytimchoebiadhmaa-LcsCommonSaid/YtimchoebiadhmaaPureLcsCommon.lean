/- LcsCommon over plain lists: the pairs are a row that both lists have in common, as long as the length says. -/
import Derived.Test.YtimchoebiadhmaaPLcsRef
import Derived.Test.YtimchoebiadhmaaX13
namespace Go.Proofs.Ytimchoebiadhmaa.X
open Go.RowKit Go.Proofs.YtimchoebiadhmaaW.PrintWords
theorem lcsCommon_l0 (a b : List ByteArray) (ha : a.length ≤ 60) (hb : b.length ≤ 60) (ps : List (Nat × Nat)) (hg : Good a b 0 0 ps) (hl : ps.length = lcsL a b) : ∀ (d k t : Nat), t + d = ps.length → 2 * d < k →
    tartanlaw08_LcsCommon.l0 k a b true (ps.map pairS) (t : Nat) = some true := by
  have hn := lcsL_le a b
  intro d
  induction d with
  | zero =>
    intro k t ht hk
    obtain ⟨k, rfl⟩ : ∃ m, k = m + 1 := ⟨k - 1, by omega⟩
    simp only [tartanlaw08_LcsCommon.l0]
    rw [if_neg (by rw [List.length_map]; omega), if_pos trivial, length_some (by omega) (by omega), Option.bind_some, List.length_map, hl]
    simp
  | succ d ih =>
    intro k t ht hk
    obtain ⟨k, rfl⟩ : ∃ m, k = m + 2 := ⟨k - 2, by omega⟩
    have hp : ps[t]? = some ps[t] := List.getElem?_eq_getElem (by omega)
    obtain ⟨_, _, g3, g4, g5, g6⟩ := hg.at t _ hp
    have hnext := ih k (t + 1) (by omega) (by omega)
    have r1 := rdS_map ps t _ hp
    have ew : wrap64 ((t : Int) + 1) = ((t + 1 : Nat) : Int) := by rw [wrap_in8 (by omega) (by omega)]; omega
    simp only [tartanlaw08_LcsCommon.l0, tartanlaw08_LcsCommon.j1]
    rw [r1]
    have f0 : (pairS ps[t]).f0 = (ps[t].1 : Int) := rfl
    have f1 : (pairS ps[t]).f1 = (ps[t].2 : Int) := rfl
    rw [f0, f1, ew]
    clear ew
    rw [if_pos (by rw [List.length_map]; omega), if_pos (by omega), if_neg (by omega), if_neg (by omega), if_neg (by omega), if_neg (by omega), if_pos (by omega), if_pos (by omega), if_pos (by omega), if_pos (by omega), g5, if_neg (by simp)]
    by_cases c : 0 < t
    · obtain ⟨u, rfl⟩ : ∃ u, t = u + 1 := ⟨t - 1, by omega⟩
      have hq : ps[u]? = some ps[u] := List.getElem?_eq_getElem (by omega)
      have g7 := g6 u _ rfl hq
      have e2 : wrap64 (((u + 1 : Nat) : Int) - 1) = (u : Int) := by rw [wrap_in8 (by omega) (by omega)]; omega
      rw [e2]
      clear e2
      have r2 := rdS_map ps u _ hq
      rw [r2]
      have f2 : (pairS ps[u]).f0 = (ps[u].1 : Int) := rfl
      have f3 : (pairS ps[u]).f1 = (ps[u].2 : Int) := rfl
      rw [f2, f3, if_pos (by omega), if_pos (by omega), if_pos (by rw [List.length_map]; omega), if_neg (by omega), if_neg (by omega)]
      exact hnext
    · rw [if_neg (by omega)]
      exact hnext
theorem pure_LcsCommon : ∀ (x0 : List (ByteArray)) (x1 : List (ByteArray)), okT22 x0 → okT22 x1 → ∃ k, tartanlaw08_LcsCommon.f k x0 x1 = some true := by
  intro a b _ _
  refine ⟨400, ?_⟩
  unfold tartanlaw08_LcsCommon.f
  rw [lcs_works (by omega), Option.bind_some, if_pos rfl, small_some, Option.bind_some]
  by_cases c : a.length ≤ 60 ∧ b.length ≤ 60
  · have hl := lcsP_len a 0 b 0
    have hg := lcsP_good a b _ 0 0 (Nat.le_refl _)
    rw [if_pos (decide_eq_true c), pairs_some (by omega) (by omega), Option.bind_some]
    exact lcsCommon_l0 a b c.1 c.2 (lcsP a 0 b 0) hg.1 hg.2 (lcsP a 0 b 0).length 400 0 (Nat.zero_add _) (by omega)
  · rw [if_neg (by simpa using c)]
end Go.Proofs.Ytimchoebiadhmaa.X
