/- The reference's table and its pairs; the facts that the laws of layer 8 share. -/
import Derived.Test.YtimchoebiadhmaaPLcs
import Derived.Test.YtimchoebiadhmaaX12
import Derived.Test.YtimchoebiadhmaaX11
import Derived.Test.YtimchoebiadhmaaX8
import Derived.Test.YtimchoebiadhmaaROpen
namespace Go.Proofs.Ytimchoebiadhmaa.X
open Go.RowKit Go.Proofs.YtimchoebiadhmaaW.PrintWords

theorem wrap_in8 {n : Int} (h0 : -1000000000000 ≤ n) (h1 : n ≤ 1000000000000) : wrap64 n = n := by unfold wrap64; omega
theorem length_some {a b : List ByteArray} (ha : a.length ≤ 10000) (hb : b.length ≤ 10000) : lcs_Length.f a b = some ((lcsL a b : Nat) : Int) := by unfold lcs_Length.f; rw [if_pos ⟨ha, hb⟩]
theorem pairs_some {a b : List ByteArray} (ha : a.length ≤ 10000) (hb : b.length ≤ 10000) : lcs_Pairs.f a b = some ((lcsP a 0 b 0).map pairS) := by unfold lcs_Pairs.f; rw [if_pos ⟨ha, hb⟩]

def isRow (g : List ByteArray → Nat) (b : List ByteArray) (r : List Int) : Prop := r.length = b.length + 1 ∧ ∀ q, q ≤ b.length → r.getD q 0 = (g (b.drop q) : Nat)

theorem refRow_l0 (x : ByteArray) (a b : List ByteArray) (below : List Int) (hb : b.length ≤ 100000) (h : isRow (lcsL a) b below) : ∀ (d k : Nat) (r : List Int), d ≤ b.length → r.length = b.length + 1 → (∀ q, d ≤ q → q ≤ b.length → r.getD q 0 = (lcsL (x :: a) (b.drop q) : Nat)) → d < k →
    ∃ r', tartanref08_row.l0 k x b below r ((d : Int) - 1) = some r' ∧ isRow (lcsL (x :: a)) b r' := by
  intro d
  induction d with
  | zero =>
    intro k r hd hl hr hk
    obtain ⟨k, rfl⟩ : ∃ m, k = m + 1 := ⟨k - 1, by omega⟩
    refine ⟨r, ?_, hl, fun q hq => hr q (Nat.zero_le _) hq⟩
    simp only [tartanref08_row.l0]
    rw [if_neg (by omega)]
  | succ d ih =>
    intro k r hd hl hr hk
    obtain ⟨k, rfl⟩ : ∃ m, k = m + 1 := ⟨k - 1, by omega⟩
    have e0 : (((d + 1 : Nat) : Int) - 1) = (d : Int) := by omega
    have hlt : d < b.length := by omega
    have e1 : wrap64 ((d : Int) + 1) = ((d + 1 : Nat) : Int) := by rw [wrap_in8 (by omega) (by omega)]; omega
    have e2 : wrap64 ((d : Int) - 1) = (d : Int) - 1 := wrap_in8 (by omega) (by omega)
    have h1 : rd below (d : Int) = (lcsL a (b.drop d) : Nat) := h.2 d (by omega)
    have h2 : rd below ((d + 1 : Nat) : Int) = (lcsL a (b.drop (d + 1)) : Nat) := h.2 (d + 1) (by omega)
    have h3 : rd r ((d + 1 : Nat) : Int) = (lcsL (x :: a) (b.drop (d + 1)) : Nat) := hr (d + 1) (by omega) (by omega)
    have h4 := lcsL_leR a (b.drop (d + 1))
    rw [List.length_drop] at h4
    rw [e0]
    simp only [tartanref08_row.l0]
    rw [e1, e2, if_pos (by omega), if_pos (by omega), if_pos (by rw [h.1]; omega), if_pos (by omega), if_pos (by rw [hl]; omega), if_pos (by rw [hl]; omega), Option.bind_some, if_pos (by omega), h1, h2, h3]
    rw [show ((d : Int)).toNat = d from rfl]
    have step : ∀ (r' : List Int) (v : Int), r'.length = b.length + 1 → (∀ q, q ≠ d → r'.getD q 0 = r.getD q 0) → v = (lcsL (x :: a) (b.drop d) : Nat) → r'.getD d 0 = v → ∃ r'', tartanref08_row.l0 k x b below r' ((d : Int) - 1) = some r'' ∧ isRow (lcsL (x :: a)) b r'' := by
      intro r' v hl' hq hv hd'
      refine ih k r' (by omega) hl' (fun q hq1 hq2 => ?_) (by omega)
      by_cases eq : q = d
      · rw [eq, hd', hv]
      · rw [hq q eq]; exact hr q (by omega) hq2
    by_cases e : x = rdOf ByteArray.empty b (d : Int)
    · rw [if_pos (str_eq.2 e), if_pos (by rw [h.1]; omega), wrap_in8 (by omega) (by omega)]
      refine step _ _ (by rw [List.length_set, List.length_set]; exact hl) (fun q hq => by rw [getD_set _ _ _ _ (by rw [List.length_set]; omega), if_neg hq, getD_set _ _ _ _ (by omega), if_neg hq]) ?_ (by rw [getD_set _ _ _ _ (by rw [List.length_set]; omega), if_pos rfl])
      rw [drop_rd hlt, lcsL_cons, if_pos e]; omega
    · rw [if_neg (fun h => e (str_eq.1 h))]
      refine step _ _ (by rw [List.length_set]; exact hl) (fun q hq => by rw [getD_set _ _ _ _ (by omega), if_neg hq]) ?_ (by rw [getD_set _ _ _ _ (by omega), if_pos rfl])
      rw [drop_rd hlt, lcsL_cons, if_neg e, ← drop_rd hlt]
      unfold mx
      split <;> omega
theorem refRow_some (x : ByteArray) (a b : List ByteArray) (below : List Int) (hb : b.length ≤ 100000) (h : isRow (lcsL a) b below) {k : Nat} (hk : b.length < k) : ∃ r', tartanref08_row.f k x b below = some r' ∧ isRow (lcsL (x :: a)) b r' := by
  unfold tartanref08_row.f
  have e1 : wrap64 ((b.length : Int) + 1) = ((b.length + 1 : Nat) : Int) := by rw [wrap_in8 (by omega) (by omega)]; omega
  rw [e1, if_pos (by omega), show (((b.length + 1 : Nat) : Int)).toNat = b.length + 1 from rfl, if_pos (by omega), wrap_in8 (by omega) (by omega)]
  refine refRow_l0 x a b below hb h b.length k _ (Nat.le_refl _) (by simp) (fun q h1 h2 => ?_) hk
  obtain rfl : q = b.length := by omega
  rw [List.drop_length, lcsL_nil, List.getD_eq_getElem?_getD, List.getElem?_replicate]
  split <;> rfl

def isRows (a b : List ByteArray) (rs : List (List Int)) : Prop := rs.length = a.length + 1 ∧ ∀ p, p ≤ a.length → isRow (lcsL (a.drop p)) b (rs.getD p [])

theorem getD_setL (xs : List (List Int)) (j : Nat) (v : List Int) (q : Nat) (hj : j < xs.length) : (xs.set j v).getD q [] = if q = j then v else xs.getD q [] := by
  rw [List.getD_eq_getElem?_getD, List.getElem?_set, List.getD_eq_getElem?_getD]
  by_cases e : j = q
  · rw [if_pos e, if_pos e.symm, if_pos (by omega)]; rfl
  · rw [if_neg e, if_neg (fun h => e h.symm)]

theorem refRows_l0 (a b : List ByteArray) (ha : a.length ≤ 100000) (hb : b.length ≤ 100000) : ∀ (d k : Nat) (rs : List (List Int)), d ≤ a.length → rs.length = a.length + 1 → (∀ p, d ≤ p → p ≤ a.length → isRow (lcsL (a.drop p)) b (rs.getD p [])) → d + b.length + 1 < k →
    ∃ rs', tartanref08_rows.l0 k a b rs ((d : Int) - 1) = some rs' ∧ isRows a b rs' := by
  intro d
  induction d with
  | zero =>
    intro k rs hd hl hr hk
    obtain ⟨k, rfl⟩ : ∃ m, k = m + 1 := ⟨k - 1, by omega⟩
    refine ⟨rs, ?_, hl, fun q hq => hr q (Nat.zero_le _) hq⟩
    simp only [tartanref08_rows.l0]
    rw [if_neg (by omega)]
  | succ d ih =>
    intro k rs hd hl hr hk
    obtain ⟨k, rfl⟩ : ∃ m, k = m + 1 := ⟨k - 1, by omega⟩
    have e0 : (((d + 1 : Nat) : Int) - 1) = (d : Int) := by omega
    have hlt : d < a.length := by omega
    have e1 : wrap64 ((d : Int) + 1) = ((d + 1 : Nat) : Int) := by rw [wrap_in8 (by omega) (by omega)]; omega
    have e2 : wrap64 ((d : Int) - 1) = (d : Int) - 1 := wrap_in8 (by omega) (by omega)
    obtain ⟨r', hr', hir⟩ := refRow_some (rdOf ByteArray.empty a (d : Int)) (a.drop (d + 1)) b (rd_L6 rs ((d + 1 : Nat) : Int)) hb (hr (d + 1) (by omega) (by omega)) (k := k) (by omega)
    rw [e0]
    simp only [tartanref08_rows.l0]
    rw [e1, e2, if_pos (by omega), if_pos (by omega), if_pos (by omega), if_pos (by omega), if_pos (by omega), hr', Option.bind_some, if_pos (by omega)]
    rw [show ((d : Int)).toNat = d from rfl]
    refine ih k _ (by omega) (by rw [List.length_set]; exact hl) (fun p h1 h2 => ?_) (by omega)
    rw [getD_setL _ _ _ _ (by omega)]
    by_cases ep : p = d
    · rw [if_pos ep, ep, drop_rd hlt]; exact hir
    · rw [if_neg ep]; exact hr p (by omega) h2
theorem refRows_some (a b : List ByteArray) (ha : a.length ≤ 100000) (hb : b.length ≤ 100000) {k : Nat} (hk : a.length + b.length + 1 < k) : ∃ rs, tartanref08_rows.f k a b = some rs ∧ isRows a b rs := by
  unfold tartanref08_rows.f
  have e1 : wrap64 ((a.length : Int) + 1) = ((a.length + 1 : Nat) : Int) := by rw [wrap_in8 (by omega) (by omega)]; omega
  have e2 : wrap64 ((b.length : Int) + 1) = ((b.length + 1 : Nat) : Int) := by rw [wrap_in8 (by omega) (by omega)]; omega
  rw [e1, e2, if_pos (by omega), show (((a.length + 1 : Nat) : Int)).toNat = a.length + 1 from rfl, show (((b.length + 1 : Nat) : Int)).toNat = b.length + 1 from rfl, if_pos (by omega), Option.bind_some, if_pos (by omega), if_pos (by omega), if_pos (by omega),
    if_pos (by rw [List.length_replicate]; omega), wrap_in8 (n := (a.length : Int) - 1) (by omega) (by omega), show ((a.length : Int)).toNat = a.length from rfl]
  refine refRows_l0 a b ha hb a.length k _ (Nat.le_refl _) (by simp) (fun p h1 h2 => ?_) hk
  obtain rfl : p = a.length := by omega
  rw [getD_setL _ _ _ _ (by simp), if_pos rfl, List.drop_length]
  refine ⟨by simp, fun q hq => ?_⟩
  rw [List.getD_eq_getElem?_getD, List.getElem?_replicate]
  split <;> rfl
theorem refLength_some (a b : List ByteArray) (ha : a.length ≤ 100000) (hb : b.length ≤ 100000) {k : Nat} (hk : a.length + b.length + 1 < k) : tartanref08_Length.f k a b = some ((lcsL a b : Nat) : Int) := by
  obtain ⟨rs, h1, h2, h3⟩ := refRows_some a b ha hb hk
  have h4 := h3 0 (Nat.zero_le _)
  have h5 := h4.2 0 (Nat.zero_le _)
  have h6 : (rd_L6 rs 0).length = b.length + 1 := h4.1
  unfold tartanref08_Length.f
  rw [h1, Option.bind_some, if_pos (by omega), if_pos (by omega)]
  exact congrArg some h5

theorem refPairs_l0 (a b : List ByteArray) (rs : List (List Int)) (ha : a.length ≤ 1000) (hb : b.length ≤ 1000) (hr : isRows a b rs) : ∀ (n k i j : Nat) (pre : List (Nat × Nat)), a.length - i + (b.length - j) ≤ n → i ≤ a.length → j ≤ b.length → 2 * n + 2 < k → pre.length + n ≤ 100000 →
    tartanref08_Pairs.l0 k a b rs (pre.map pairS) (i : Nat) (j : Nat) = some ((pre ++ lcsP (a.drop i) i (b.drop j) j).map pairS) := by
  intro n
  induction n with
  | zero =>
    intro k i j pre hn hi hj hk hp
    obtain ⟨k, rfl⟩ : ∃ m, k = m + 2 := ⟨k - 2, by omega⟩
    simp only [tartanref08_Pairs.l0, tartanref08_Pairs.j1]
    rw [if_neg (by omega), if_neg (by decide), List.drop_eq_nil_of_le (show a.length ≤ i by omega)]
    simp [lcsP]
  | succ n ih =>
    intro k i j pre hn hi hj hk hp
    obtain ⟨k, rfl⟩ : ∃ m, k = m + 2 := ⟨k - 2, by omega⟩
    simp only [tartanref08_Pairs.l0, tartanref08_Pairs.j1]
    by_cases c1 : i < a.length
    · by_cases c2 : j < b.length
      · rw [if_pos (by omega), if_pos (decide_eq_true (by omega)), if_pos (by omega), if_pos (by omega), if_pos (by omega), if_pos (by omega)]
        rw [show wrap64 ((i : Int) + 1) = ((i + 1 : Nat) : Int) from by rw [wrap_in8 (by omega) (by omega)]; omega, show wrap64 ((j : Int) + 1) = ((j + 1 : Nat) : Int) from by rw [wrap_in8 (by omega) (by omega)]; omega]
        by_cases e : rdOf ByteArray.empty a (i : Int) = rdOf ByteArray.empty b (j : Int)
        · rw [if_pos (str_eq.2 e), if_pos (by rw [List.length_map]; omega)]
          have := ih k (i + 1) (j + 1) (pre ++ [(i, j)]) (by omega) (by omega) (by omega) (by omega) (by simp; omega)
          rw [List.map_append] at this
          refine this.trans ?_
          rw [drop_rd c1, drop_rd c2, lcsP_cons, if_pos e]; simp
        · have f1 := hr.2 (i + 1) (by omega)
          have f2 := hr.2 i (by omega)
          have g1 : (rd_L6 rs ((i + 1 : Nat) : Int)).length = b.length + 1 := f1.1
          have g2 : (rd_L6 rs (i : Int)).length = b.length + 1 := f2.1
          have v1 : rd (rd_L6 rs ((i + 1 : Nat) : Int)) (j : Int) = (lcsL (a.drop (i + 1)) (b.drop j) : Nat) := f1.2 j (by omega)
          have v2 : rd (rd_L6 rs (i : Int)) ((j + 1 : Nat) : Int) = (lcsL (a.drop i) (b.drop (j + 1)) : Nat) := f2.2 (j + 1) (by omega)
          rw [if_neg (fun h => e (str_eq.1 h)), if_pos (by omega), if_pos (by rw [hr.1]; omega), if_pos (by omega), if_pos (by rw [hr.1]; omega), if_pos (by omega), if_pos (by omega), v1, v2]
          by_cases hc : lcsL (a.drop i) (b.drop (j + 1)) ≤ lcsL (a.drop (i + 1)) (b.drop j)
          · rw [if_pos (by omega), ih k (i + 1) j pre (by omega) (by omega) (by omega) (by omega) (by omega)]
            rw [drop_rd c1, drop_rd c2] at hc
            rw [drop_rd c1, drop_rd c2, lcsP_cons, if_neg e, if_pos hc]
          · rw [if_neg (by omega), ih k i (j + 1) pre (by omega) (by omega) (by omega) (by omega) (by omega)]
            rw [drop_rd c1, drop_rd c2] at hc
            rw [drop_rd c1, drop_rd c2, lcsP_cons, if_neg e, if_neg hc]
      · rw [if_pos (by omega), if_neg (by rw [decide_eq_true_eq]; omega), show b.drop j = [] from List.drop_eq_nil_of_le (by omega), lcsP_nil]
        simp
    · rw [if_neg (by omega), if_neg (by decide), List.drop_eq_nil_of_le (show a.length ≤ i by omega)]
      simp [lcsP]
theorem refPairs_some (a b : List ByteArray) (ha : a.length ≤ 1000) (hb : b.length ≤ 1000) {k : Nat} (hk : 2 * (a.length + b.length) + 2 < k) : tartanref08_Pairs.f k a b = some ((lcsP a 0 b 0).map pairS) := by
  obtain ⟨rs, h1, h2⟩ := refRows_some a b (by omega) (by omega) (k := k) (by omega)
  unfold tartanref08_Pairs.f
  rw [h1, Option.bind_some]
  exact refPairs_l0 a b rs ha hb h2 (a.length + b.length) k 0 0 [] (by omega) (by omega) (by omega) hk (by simp; omega)

theorem rdS_map (ps : List (Nat × Nat)) (t : Nat) (p : Nat × Nat) (h : ps[t]? = some p) : rd_T34 (ps.map pairS) (t : Int) = pairS p := by
  unfold rd_T34
  rw [show ((t : Int)).toNat = t from rfl, List.getD_eq_getElem?_getD, List.getElem?_map, h]; rfl

theorem refSame6_l0 (x : List S34) (hx : x.length ≤ 100000) : ∀ (d k i : Nat), i + d = x.length → d < k → tartanref06_Same.l0 k x x (i : Nat) = some true := by
  intro d
  induction d with
  | zero =>
    intro k i hi hk
    obtain ⟨k, rfl⟩ : ∃ m, k = m + 1 := ⟨k - 1, by omega⟩
    simp only [tartanref06_Same.l0]
    rw [if_neg (by omega)]
  | succ d ih =>
    intro k i hi hk
    obtain ⟨k, rfl⟩ : ∃ m, k = m + 1 := ⟨k - 1, by omega⟩
    have e1 : wrap64 ((i : Int) + 1) = ((i + 1 : Nat) : Int) := by rw [wrap_in8 (by omega) (by omega)]; omega
    simp only [tartanref06_Same.l0]
    rw [if_pos (by omega), if_pos (by omega), if_pos (by omega), if_neg (by simp), e1]
    exact ih k (i + 1) (by omega) (by omega)
theorem refSame6_some (x : List S34) (hx : x.length ≤ 100000) {k : Nat} (hk : x.length < k) : tartanref06_Same.f k x x = some true := by
  unfold tartanref06_Same.f
  rw [if_pos rfl]
  exact refSame6_l0 x hx x.length k 0 (by omega) hk

theorem lcs_works {k : Nat} (hk : 5 < k) : tartanlaw08_works.f k = some true := by
  unfold tartanlaw08_works.f
  have e1 : lcs_Pairs.f (([(⟨#[97]⟩ : ByteArray), (⟨#[98]⟩ : ByteArray), (⟨#[99]⟩ : ByteArray)] : List ByteArray)) (([(⟨#[98]⟩ : ByteArray), (⟨#[99]⟩ : ByteArray), (⟨#[97]⟩ : ByteArray)] : List ByteArray)) = some [⟨1, 0⟩, ⟨2, 1⟩] := by kernel_rfl
  have e2 : lcs_Pairs.f (([(⟨#[97]⟩ : ByteArray), (⟨#[98]⟩ : ByteArray)] : List ByteArray)) (([(⟨#[98]⟩ : ByteArray), (⟨#[97]⟩ : ByteArray)] : List ByteArray)) = some [⟨1, 0⟩] := by kernel_rfl
  have e3 : lcs_Length.f (([(⟨#[97]⟩ : ByteArray), (⟨#[98]⟩ : ByteArray), (⟨#[99]⟩ : ByteArray)] : List ByteArray)) (([(⟨#[98]⟩ : ByteArray), (⟨#[99]⟩ : ByteArray), (⟨#[97]⟩ : ByteArray)] : List ByteArray)) = some 2 := by kernel_rfl
  have e4 : lcs_Length.f ([] : List ByteArray) ([] : List ByteArray) = some 0 := by kernel_rfl
  rw [e1, Option.bind_some, refSame6_some _ (by simp) (by simp; omega), Option.bind_some, e2, Option.bind_some, refSame6_some _ (by simp) (by simp; omega), Option.bind_some, e3, e4]
  rfl
theorem small_some (a b : List ByteArray) : tartanlaw08_small.f a b = some (decide (a.length ≤ 60 ∧ b.length ≤ 60)) := by
  unfold tartanlaw08_small.f
  by_cases c1 : a.length ≤ 60
  · rw [if_pos (by omega)]
    by_cases c2 : b.length ≤ 60
    · rw [decide_eq_true (show (b.length : Int) ≤ 60 by omega), decide_eq_true (show a.length ≤ 60 ∧ b.length ≤ 60 from ⟨c1, c2⟩)]
    · rw [decide_eq_false (show ¬ (b.length : Int) ≤ 60 by omega), decide_eq_false (show ¬ (a.length ≤ 60 ∧ b.length ≤ 60) from fun h => c2 h.2)]
  · rw [if_neg (by omega), decide_eq_false (show ¬ (a.length ≤ 60 ∧ b.length ≤ 60) from fun h => c1 h.1)]
end Go.Proofs.Ytimchoebiadhmaa.X
