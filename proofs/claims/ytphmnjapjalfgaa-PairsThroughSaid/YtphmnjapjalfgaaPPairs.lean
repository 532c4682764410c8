/- What the reference of layer 6 computes: the same as the program's functions. -/
import Derived.Test.YtphmnjapjalfgaaX4
import Derived.Test.YtphmnjapjalfgaaX5
import Derived.Test.YtphmnjapjalfgaaX6
import Derived.Test.YtphmnjapjalfgaaX7
import Derived.Test.YtphmnjapjalfgaaX8
import Derived.Test.YtphmnjapjalfgaaX11
import Derived.Test.YtphmnjapjalfgaaX12
import Derived.Test.YtphmnjapjalfgaaX13
namespace Go.Proofs.Ytphmnjapjalfgaa.X
open Go.RowKit Go.Proofs.YtphmnjapjalfgaaW.PrintWords
set_option linter.unusedVariables false

theorem wrap_in {n : Int} (h0 : -1000000000000 ≤ n) (h1 : n ≤ 1000000000000) : wrap64 n = n := by unfold wrap64; omega
theorem wrap_up (i : Nat) (h : i ≤ 1000000000) : wrap64 ((i : Int) + 1) = ((i + 1 : Nat) : Int) := by rw [wrap_in (by omega) (by omega)]; omega
theorem dropP {l : List PS} {t : Nat} (h : t < l.length) : l.drop t = rd_T37 l (t : Int) :: l.drop (t + 1) := by
  unfold rd_T37
  rw [List.drop_eq_getElem_cons h, show ((t : Int)).toNat = t from rfl, List.getD_eq_getElem?_getD, List.getElem?_eq_getElem h]; rfl
theorem dropI {l : List Int} {t : Nat} (h : t < l.length) : l.drop t = rd l (t : Int) :: l.drop (t + 1) := by
  unfold rd
  rw [List.drop_eq_getElem_cons h, show ((t : Int)).toNat = t from rfl, List.getD_eq_getElem?_getD, List.getElem?_eq_getElem h]; rfl

/-- The document's examples. -/
theorem works06 : ∀ k, tartanlaw06_works.f (k + 30) = some true := by intro k; kernel_rfl

def eqP (p q : PS) : Bool := p.f0 == q.f0 && p.f1 == q.f1
theorem eqP_iff {p q : PS} : eqP p q = true ↔ p = q := by
  cases p; cases q; simp [eqP]
def sameB : List PS → List PS → Bool
  | [], [] => true
  | p :: a, q :: b => eqP p q && sameB a b
  | _, _ => false
theorem sameB_iff : ∀ {a b : List PS}, sameB a b = true ↔ a = b
  | [], [] => by simp [sameB]
  | [], _ :: _ => by simp [sameB]
  | _ :: _, [] => by simp [sameB]
  | p :: a, q :: b => by simp [sameB, eqP_iff, sameB_iff]
theorem sameB_refl (a : List PS) : sameB a a = true := sameB_iff.2 rfl
theorem refSame_l0 (a b : List PS) (hab : a.length = b.length) (ha : a.length ≤ 100000) : ∀ (d k i : Nat), i + d = a.length → d < k → tartanref06_Same.l0 k a b (i : Nat) = some (sameB (a.drop i) (b.drop i)) := by
  intro d
  induction d with
  | zero =>
    intro k i hi hk
    obtain ⟨k, rfl⟩ : ∃ m, k = m + 1 := ⟨k - 1, by omega⟩
    simp only [tartanref06_Same.l0]
    rw [if_neg (by omega), List.drop_eq_nil_of_le (by omega), List.drop_eq_nil_of_le (by omega)]; rfl
  | succ d ih =>
    intro k i hi hk
    obtain ⟨k, rfl⟩ : ∃ m, k = m + 1 := ⟨k - 1, by omega⟩
    have ih' := ih k (i + 1) (by omega) (by omega)
    simp only [tartanref06_Same.l0]
    rw [if_pos (by omega), if_pos (by omega), if_pos (by omega), wrap_up _ (by omega), ih', dropP (l := a) (t := i) (by omega), dropP (l := b) (t := i) (by omega)]
    show _ = some (eqP _ _ && sameB _ _)
    unfold eqP
    cases (rd_T37 a (i : Int)).f0 == (rd_T37 b (i : Int)).f0 <;> cases (rd_T37 a (i : Int)).f1 == (rd_T37 b (i : Int)).f1 <;> simp
theorem sameB_len {a b : List PS} (h : ¬ a.length = b.length) : sameB a b = false := by
  rw [Bool.eq_false_iff]; intro h2; exact h (by rw [sameB_iff.1 h2])
theorem refSame_some {a b : List PS} (ha : a.length ≤ 100000) {k : Nat} (hk : a.length < k) : tartanref06_Same.f k a b = some (sameB a b) := by
  unfold tartanref06_Same.f
  by_cases e : a.length = b.length
  · rw [if_pos (by omega)]
    exact refSame_l0 a b e ha a.length k 0 (by omega) hk
  · rw [if_neg (by omega), sameB_len e]
theorem pair_l0 (a b : List PS) (hab : a.length = b.length) (ha : a.length ≤ 100000) : ∀ (d k i : Nat), i + d = a.length → d < k → api_Pair.l0 k a b (a.length : Nat) (i : Nat) = some (sameB (a.drop i) (b.drop i)) := by
  intro d
  induction d with
  | zero =>
    intro k i hi hk
    obtain ⟨k, rfl⟩ : ∃ m, k = m + 1 := ⟨k - 1, by omega⟩
    simp only [api_Pair.l0]
    rw [if_neg (by omega), List.drop_eq_nil_of_le (by omega), List.drop_eq_nil_of_le (by omega)]; rfl
  | succ d ih =>
    intro k i hi hk
    obtain ⟨k, rfl⟩ : ∃ m, k = m + 1 := ⟨k - 1, by omega⟩
    have ih' := ih k (i + 1) (by omega) (by omega)
    simp only [api_Pair.l0]
    rw [if_pos (by omega), if_pos (by omega), if_pos (by omega), if_pos (by omega), wrap_up _ (by omega), ih', dropP (l := a) (t := i) (by omega), dropP (l := b) (t := i) (by omega)]
    show _ = some (eqP _ _ && sameB _ _)
    unfold eqP
    cases (rd_T37 a (i : Int)).f0 == (rd_T37 b (i : Int)).f0 <;> cases (rd_T37 a (i : Int)).f1 == (rd_T37 b (i : Int)).f1 <;> simp
theorem pairsSame_some {a b : List PS} (ha : a.length ≤ 100000) {k : Nat} (hk : a.length < k) : pairs_Same.f k a b = some (sameB a b) := by
  unfold pairs_Same.f api_Pair.f
  by_cases e : a.length = b.length
  · rw [if_pos (by omega), show (0 : Int) = ((0 : Nat) : Int) from rfl, pair_l0 a b e ha a.length k 0 (by omega) hk]; rfl
  · rw [if_neg (by omega), sameB_len e]; rfl
theorem refInts_l0 (a b : List Int) (hab : a.length = b.length) (ha : a.length ≤ 1000000) : ∀ (d k i : Nat), i + d = a.length → d < k → tartanref06_Ints.l0 k a b (i : Nat) = some (decide (a.drop i = b.drop i)) := by
  intro d
  induction d with
  | zero =>
    intro k i hi hk
    obtain ⟨k, rfl⟩ : ∃ m, k = m + 1 := ⟨k - 1, by omega⟩
    simp only [tartanref06_Ints.l0]
    rw [if_neg (by omega), List.drop_eq_nil_of_le (by omega), List.drop_eq_nil_of_le (by omega)]; simp
  | succ d ih =>
    intro k i hi hk
    obtain ⟨k, rfl⟩ : ∃ m, k = m + 1 := ⟨k - 1, by omega⟩
    have ih' := ih k (i + 1) (by omega) (by omega)
    simp only [tartanref06_Ints.l0]
    rw [if_pos (by omega), if_pos (by omega), if_pos (by omega), wrap_up _ (by omega), ih', dropI (l := a) (t := i) (by omega), dropI (l := b) (t := i) (by omega)]
    by_cases e : rd a (i : Int) = rd b (i : Int)
    · rw [if_pos e]; simp [e]
    · rw [if_neg e]; simp [e]
theorem refInts_some {a b : List Int} (ha : a.length ≤ 1000000) {k : Nat} (hk : a.length < k) : tartanref06_Ints.f k a b = some (decide (a = b)) := by
  unfold tartanref06_Ints.f
  by_cases e : a.length = b.length
  · rw [if_pos (by omega)]
    exact refInts_l0 a b e ha a.length k 0 (by omega) hk
  · rw [if_neg (by omega)]
    rw [decide_eq_false]
    intro h; exact e (by rw [h])

theorem refLong_l1 (l : List PS) (hl : l.length ≤ 100000) (i : Nat) (hi : i < l.length) : ∀ (d k K : Nat) (r : List Int), k + d = l.length → i < k → r.length = l.length → (∀ q, i < q → q < l.length → r.getD q 0 = (((lng (As l)).getD q 0 : Nat) : Int)) →
    r.getD i 0 = ((mxAfter ((As l).getD i 0) (((As l).drop (i + 1)).take (k - (i + 1))) (((lng (As l)).drop (i + 1)).take (k - (i + 1))) + 1 : Nat) : Int) →
    ∃ r', r'.length = l.length ∧ (∀ q, i ≤ q → q < l.length → r'.getD q 0 = (((lng (As l)).getD q 0 : Nat) : Int)) ∧ tartanref06_Long.l1 (K + d + 1) l r (i : Nat) (k : Nat) = tartanref06_Long.l0 K l r' ((i : Int) - 1) := by
  have hAl : (As l).length = l.length := by simp
  have hNl : (lng (As l)).length = l.length := by rw [lng_len, hAl]
  intro d
  induction d with
  | zero =>
    intro k K r hk hik hr hq hri
    refine ⟨r, hr, fun q h1 h2 => ?_, ?_⟩
    · rcases Nat.lt_or_ge i q with h | h
      · exact hq q h h2
      · obtain rfl : q = i := by omega
        rw [hri, List.take_of_length_le (by rw [List.length_drop]; omega), List.take_of_length_le (by rw [List.length_drop]; omega), lng_at _ _ (by omega)]
    · rw [show K + 0 + 1 = K + 1 from rfl]
      simp only [tartanref06_Long.l1]
      rw [if_neg (by omega), wrap_in6 (by omega) (by omega)]
  | succ d ih =>
    intro k K r hk hik hr hq hri
    have hkl : k < l.length := by omega
    have eA : ((As l).drop (i + 1)).take (k + 1 - (i + 1)) = ((As l).drop (i + 1)).take (k - (i + 1)) ++ [(As l).getD k 0] := by
      rw [show k + 1 - (i + 1) = (k - (i + 1)) + 1 from by omega, takeSucc 0 _ _ _ (by omega), show i + 1 + (k - (i + 1)) = k from by omega]
    have eN : ((lng (As l)).drop (i + 1)).take (k + 1 - (i + 1)) = ((lng (As l)).drop (i + 1)).take (k - (i + 1)) ++ [(lng (As l)).getD k 0] := by
      rw [show k + 1 - (i + 1) = (k - (i + 1)) + 1 from by omega, takeSucc 0 _ _ _ (by omega), show i + 1 + (k - (i + 1)) = k from by omega]
    have ih' := ih (k + 1) K
    have hsn := mxAfter_snoc ((As l).getD i 0) ((As l).getD k 0) ((lng (As l)).getD k 0) (((As l).drop (i + 1)).take (k - (i + 1))) (((lng (As l)).drop (i + 1)).take (k - (i + 1))) (by rw [List.length_take, List.length_take, List.length_drop, List.length_drop, hAl, hNl])
    rw [← eA, ← eN] at hsn
    have hb := lng_getD_le (As l) k
    rw [hAl] at hb
    have hrk : rd r (k : Int) = (((lng (As l)).getD k 0 : Nat) : Int) := hq k hik hkl
    have hri' : rd r (i : Int) = ((mxAfter ((As l).getD i 0) (((As l).drop (i + 1)).take (k - (i + 1))) (((lng (As l)).drop (i + 1)).take (k - (i + 1))) + 1 : Nat) : Int) := hri
    have a1 := As_get l hkl
    have a2 := As_get l hi
    obtain ⟨F, hF⟩ : ∃ F, K + d + 1 = F := ⟨_, rfl⟩
    rw [hF] at ih'
    rw [show K + (d + 1) + 1 = F + 1 from by omega]
    simp only [tartanref06_Long.l1]
    rw [show wrap64 ((k : Int) + 1) = ((k + 1 : Nat) : Int) from by rw [wrap_in6 (by omega) (by omega)]; omega]
    rw [if_pos (by omega), if_pos (by omega), if_pos (by omega), if_pos (by omega), ← a1, ← a2]
    generalize mxAfter ((As l).getD i 0) (((As l).drop (i + 1)).take (k - (i + 1))) (((lng (As l)).drop (i + 1)).take (k - (i + 1))) = M at *
    by_cases c : (As l).getD i 0 < (As l).getD k 0
    · rw [if_pos (show (As l).getD k 0 > (As l).getD i 0 from c), if_pos (show (i : Int) < (r.length : Int) from by omega), if_pos (show (k : Int) < (r.length : Int) from by omega), hrk, hri', wrap_in6 (n := (((lng (As l)).getD k 0 : Nat) : Int) + 1) (by omega) (by omega)]
      rw [if_pos c] at hsn
      refine ih' _ (by omega) (by omega) ?_ (fun q h1 h2 => ?_) ?_
      · rw [List.length_set]; exact hr
      · rw [show ((i : Int)).toNat = i from rfl, setI _ _ _ _ (by omega), if_neg (by omega)]; exact hq q h1 h2
      · rw [show ((i : Int)).toNat = i from rfl, setI _ _ _ _ (by omega), if_pos rfl, hsn]
        unfold mx
        split <;> omega
    · rw [if_neg (by omega)]
      rw [if_neg c] at hsn
      refine ih' r (by omega) (by omega) hr hq ?_
      rw [hri, hsn]; simp
theorem refLong_l0 (l : List PS) (hl : l.length ≤ 100000) : ∀ (d K : Nat) (r : List Int), d ≤ l.length → r.length = l.length → (∀ q, d ≤ q → q < l.length → r.getD q 0 = (((lng (As l)).getD q 0 : Nat) : Int)) → d * (l.length + 3) < K →
    tartanref06_Long.l0 K l r ((d : Int) - 1) = some (lngI l) := by
  intro d
  induction d with
  | zero =>
    intro K r hd hr hq hK
    obtain ⟨K, rfl⟩ : ∃ m, K = m + 1 := ⟨K - 1, by omega⟩
    simp only [tartanref06_Long.l0]
    rw [if_neg (by omega), eq_lngI l r hr (fun q h => hq q (Nat.zero_le _) h)]
  | succ d ih =>
    intro K r hd hr hq hK
    obtain ⟨K, rfl⟩ : ∃ m, K = m + 1 := ⟨K - 1, by omega⟩
    have hdl : d < l.length := by omega
    rw [Nat.add_mul] at hK
    have e0 : (((d + 1 : Nat) : Int) - 1) = (d : Int) := by omega
    rw [e0]
    obtain ⟨r', h1, h2, h3⟩ := refLong_l1 l hl d hdl (l.length - (d + 1)) (d + 1) (K - (l.length - (d + 1)) - 1) (r.set d 1) (by omega) (by omega) (by rw [List.length_set]; exact hr)
      (fun q g1 g2 => by rw [setI _ _ _ _ (by omega), if_neg (by omega)]; exact hq q (by omega) g2) (by rw [setI _ _ _ _ (by omega), if_pos rfl, Nat.sub_self]; simp [mxAfter])
    rw [show K - (l.length - (d + 1)) - 1 + (l.length - (d + 1)) + 1 = K from by omega] at h3
    have h4 := ih (K - (l.length - (d + 1)) - 1) r' (by omega) h1 h2 (by omega)
    simp only [tartanref06_Long.l0]
    rw [show wrap64 ((d : Int) + 1) = ((d + 1 : Nat) : Int) from by rw [wrap_in6 (by omega) (by omega)]; omega]
    rw [if_pos (by omega), if_pos (by omega), if_pos (by omega), show ((d : Int)).toNat = d from rfl]
    exact h3.trans h4
theorem refLong_some (l : List PS) (hl : l.length ≤ 100000) {K : Nat} (hK : l.length * (l.length + 3) < K) : tartanref06_Long.f K l = some (lngI l) := by
  unfold tartanref06_Long.f
  rw [if_pos (by omega), show ((l.length : Int)).toNat = l.length from rfl, if_pos (by omega), wrap_in6 (by omega) (by omega)]
  exact refLong_l0 l hl l.length K _ (Nat.le_refl _) (by simp) (fun q h1 h2 => by omega) hK

/-- Pairs through pairs. -/
theorem thr_cons (x y : List PS) (q : PS) : thr x (q :: y) = thrAt x q ++ thr x y := by simp [thr]
theorem refThrough_l1 (x y : List PS) (hx : x.length ≤ 100000) (hy : y.length ≤ 100000) (i F : Nat) (hi : i < y.length)
    (H : ∀ (acc : List PS) (k : Nat), acc.length ≤ i + 1 → F < k → tartanref06_Through.l0 k x y acc ((i + 1 : Nat) : Int) = some (acc ++ thr x (y.drop (i + 1)))) (acc : List PS) (hacc : acc.length ≤ i) :
    ∀ (e k j : Nat), j + e = x.length → e + F + 1 < k → (∀ j', j' < j → (rd_T37 x (j' : Int)).f1 ≠ (rd_T37 y (i : Int)).f0) → tartanref06_Through.l1 k x y acc (i : Nat) (j : Nat) = some (acc ++ thrAt x (rd_T37 y (i : Int)) ++ thr x (y.drop (i + 1))) := by
  intro e
  induction e with
  | zero =>
    intro k j hj hk hno
    obtain ⟨k, rfl⟩ : ∃ m, k = m + 1 := ⟨k - 1, by omega⟩
    simp only [tartanref06_Through.l1]
    rw [if_neg (by omega), wrap_up _ (by omega), H acc k (by omega) (by omega), find_no (fun j' hj' => hno j' (by omega)), List.append_nil]
  | succ e ih =>
    intro k j hj hk hno
    obtain ⟨k, rfl⟩ : ∃ m, k = m + 1 := ⟨k - 1, by omega⟩
    have ih' := ih k (j + 1) (by omega) (by omega)
    simp only [tartanref06_Through.l1]
    rw [if_pos (by omega), if_pos (by omega), if_pos (by omega), if_pos (by omega), wrap_up i (by omega), wrap_up j (by omega)]
    by_cases c : (rd_T37 x (j : Int)).f1 = (rd_T37 y (i : Int)).f0
    · rw [if_pos c, if_pos (by omega), H _ k (by rw [List.length_append, List.length_singleton]; omega) (by omega), find_yes (by omega) hno c]
    · rw [if_neg c]
      refine ih' fun j' hj' => ?_
      rcases Nat.lt_or_ge j' j with h | h
      · exact hno j' h
      · obtain rfl : j' = j := by omega
        exact c
theorem refThrough_l0 (x y : List PS) (hx : x.length ≤ 100000) (hy : y.length ≤ 100000) : ∀ (d i k : Nat) (acc : List PS), i + d = y.length → acc.length ≤ i → d * (x.length + 3) < k → tartanref06_Through.l0 k x y acc (i : Nat) = some (acc ++ thr x (y.drop i)) := by
  intro d
  induction d with
  | zero =>
    intro i k acc hi ha hk
    obtain ⟨k, rfl⟩ : ∃ m, k = m + 1 := ⟨k - 1, by omega⟩
    simp only [tartanref06_Through.l0]
    rw [if_neg (by omega), List.drop_eq_nil_of_le (by omega)]
    simp [thr]
  | succ d ih =>
    intro i k acc hi ha hk
    obtain ⟨k, rfl⟩ : ∃ m, k = m + 1 := ⟨k - 1, by omega⟩
    rw [Nat.succ_mul] at hk
    simp only [tartanref06_Through.l0]
    rw [if_pos (by omega)]
    have h := refThrough_l1 x y hx hy i (d * (x.length + 3)) (by omega) (fun acc' k' h1 h2 => ih (i + 1) k' acc' (by omega) h1 h2) acc ha x.length k 0 (by omega) (by omega) (fun j' h => by omega)
    rw [show (0 : Int) = ((0 : Nat) : Int) from rfl, h, dropP (l := y) (t := i) (by omega), thr_cons, List.append_assoc]
theorem refThrough_some {x y : List PS} (hx : x.length ≤ 100000) (hy : y.length ≤ 100000) {k : Nat} (hk : y.length * (x.length + 3) < k) : tartanref06_Through.f k x y = some (thr x y) := by
  have := refThrough_l0 x y hx hy y.length 0 k [] (by omega) (Nat.le_refl _) hk
  simpa [tartanref06_Through.f] using this

/-- Pairs that are turned. -/
theorem refPut_l0 (s : List PS) (a b : Int) (hs : SortB s) (hl : s.length ≤ 100000) : ∀ (d k i kk : Nat), i + d = s.length → d < k → kk ≤ i → (∀ q ∈ (s.take i).drop kk, b < q.f1) → (kk = 0 ∨ (rd_T37 s ((kk - 1 : Nat) : Int)).f1 ≤ b) →
    tartanref06_Put.l0 k s (kk : Nat) (i : Nat) a b = some (putP s ⟨a, b⟩) := by
  intro d
  induction d with
  | zero =>
    intro k i kk hi hk hkk hhi hlo
    obtain ⟨k, rfl⟩ : ∃ m, k = m + 1 := ⟨k - 1, by omega⟩
    rw [List.take_of_length_le (by omega)] at hhi
    have hp := put_at s ⟨a, b⟩ hs kk (by omega) hhi hlo
    simp only [tartanref06_Put.l0]
    rw [if_neg (by omega), Option.bind_some, if_pos (by omega), if_pos (by omega), Option.bind_some, show ((kk : Int)).toNat = kk from rfl, if_pos (by rw [List.length_take]; simp; omega), Option.bind_some,
      if_pos (by simp; omega), Option.bind_some, Option.bind_some, if_pos (by simp; omega), hp]
    simp
  | succ d ih =>
    intro k i kk hi hk hkk hhi hlo
    obtain ⟨k, rfl⟩ : ∃ m, k = m + 1 := ⟨k - 1, by omega⟩
    simp only [tartanref06_Put.l0]
    rw [if_pos (by omega), if_pos (by omega), wrap_up _ (by omega)]
    by_cases c : (rd_T37 s (i : Int)).f1 ≤ b
    · rw [if_pos c]
      refine ih k (i + 1) (i + 1) (by omega) (by omega) (Nat.le_refl _) ?_ (.inr c)
      rw [List.drop_eq_nil_of_le (by rw [List.length_take]; omega)]
      intro q hq; cases hq
    · rw [if_neg c]
      refine ih k (i + 1) kk (by omega) (by omega) (by omega) ?_ hlo
      rw [take_rdP (by omega), List.drop_append_of_le_length (by rw [List.length_take]; omega)]
      intro q hq
      rcases List.mem_append.1 hq with h | h
      · exact hhi q h
      · simp only [List.mem_singleton] at h
        subst h; omega
theorem refPut_some {s : List PS} {a b : Int} (hs : SortB s) (hl : s.length ≤ 100000) {k : Nat} (hk : s.length < k) : tartanref06_Put.f k s a b = some (putP s ⟨a, b⟩) := by
  unfold tartanref06_Put.f
  exact refPut_l0 s a b hs hl s.length k 0 0 (by omega) hk (Nat.le_refl _) (fun q hq => by simp at hq) (.inl rfl)
theorem refTurn_l0 (l : List PS) (hl : l.length ≤ 100000) : ∀ (d k i : Nat), i + d = l.length → d + l.length < k → tartanref06_Turn.l0 k l (((l.take i).map swp).foldl putP []) (i : Nat) = some (turnR l) := by
  intro d
  induction d with
  | zero =>
    intro k i hi hk
    obtain ⟨k, rfl⟩ : ∃ m, k = m + 1 := ⟨k - 1, by omega⟩
    simp only [tartanref06_Turn.l0]
    rw [if_neg (by omega), List.take_of_length_le (by omega)]; rfl
  | succ d ih =>
    intro k i hi hk
    obtain ⟨k, rfl⟩ : ∃ m, k = m + 1 := ⟨k - 1, by omega⟩
    have ih' := ih k (i + 1) (by omega) (by omega)
    have hlen : (((l.take i).map swp).foldl putP []).length = i := by rw [foldl_put_len, List.length_map, List.length_take]; simp; omega
    simp only [tartanref06_Turn.l0]
    rw [if_pos (by omega), if_pos (by omega), wrap_up _ (by omega), refPut_some (sort_fold _ _ List.Pairwise.nil) (by omega) (by omega), Option.bind_some]
    rw [take_rdP (by omega), List.map_append, List.foldl_append] at ih'
    exact ih'
theorem refTurn_some {l : List PS} (hl : l.length ≤ 100000) {k : Nat} (hk : 2 * l.length < k) : tartanref06_Turn.f k l = some (turnR l) := by
  unfold tartanref06_Turn.f
  exact refTurn_l0 l hl l.length k 0 (by omega) (by omega)

/-- Those in no pair. -/
theorem restR_next (xs : List Int) (i : Nat) : restR xs (i + 1) = if xs.any (fun x => x == (i : Int)) = true then restR xs i else restR xs i ++ [(i : Int)] := by
  rw [restR_succ]
  by_cases c : xs.count (i : Int) = 0
  · rw [if_pos c, if_neg]
    rw [List.count_eq_zero] at c
    simp only [List.any_eq_true, beq_iff_eq, not_exists, not_and]
    intro x hx e; exact c (e ▸ hx)
  · rw [if_neg c, if_pos, List.append_nil]
    have h : (i : Int) ∈ xs := by rw [← List.count_pos_iff]; omega
    simp only [List.any_eq_true, beq_iff_eq]
    exact ⟨_, h, rfl⟩
theorem refRestA_l1 (l : List PS) (n : Int) (hl : l.length ≤ 100000) (hn : n ≤ 100000) (i F : Nat) (hi : (i : Int) < n)
    (H : ∀ (k : Nat), F < k → tartanref06_RestA.l0 k l n (restR (l.map (·.f0)) (i + 1)) ((i + 1 : Nat) : Int) = some (restR (l.map (·.f0)) n.toNat)) :
    ∀ (e k j : Nat), j + e = l.length → e + F + 1 < k → tartanref06_RestA.l1 k l n (restR (l.map (·.f0)) i) (i : Nat) (((l.take j).map (·.f0)).any (fun x => x == (i : Int))) (j : Nat) = some (restR (l.map (·.f0)) n.toNat) := by
  intro e
  induction e with
  | zero =>
    intro k j hj hk
    obtain ⟨k, rfl⟩ : ∃ m, k = m + 1 := ⟨k - 1, by omega⟩
    have h := H k (by omega)
    have hle := restR_le (l.map (·.f0)) i
    rw [restR_next] at h
    simp only [tartanref06_RestA.l1]
    rw [if_neg (by omega), List.take_of_length_le (by omega), wrap_up _ (by omega)]
    by_cases c : (l.map (·.f0)).any (fun x => x == (i : Int)) = true
    · rw [if_pos c]; rw [if_pos c] at h; exact h
    · rw [if_neg c, if_pos (by omega)]; rw [if_neg c] at h; exact h
  | succ e ih =>
    intro k j hj hk
    obtain ⟨k, rfl⟩ : ∃ m, k = m + 1 := ⟨k - 1, by omega⟩
    have ih' := ih k (j + 1) (by omega) (by omega)
    rw [take_rdP (by omega), List.map_append, List.any_append] at ih'
    simp only [tartanref06_RestA.l1]
    rw [if_pos (by omega), wrap_up j (by omega)]
    cases c : ((l.take j).map (·.f0)).any (fun x => x == (i : Int))
    · rw [c] at ih'
      rw [if_neg (by decide), if_pos (by omega)]
      simpa using ih'
    · rw [c] at ih'
      rw [if_pos rfl]
      simpa using ih'
theorem refRestA_l0 (l : List PS) (n : Int) (hl : l.length ≤ 100000) (hn : n ≤ 100000) : ∀ (d i k : Nat), i + d = n.toNat → d * (l.length + 3) < k → tartanref06_RestA.l0 k l n (restR (l.map (·.f0)) i) (i : Nat) = some (restR (l.map (·.f0)) n.toNat) := by
  intro d
  induction d with
  | zero =>
    intro i k hi hk
    obtain ⟨k, rfl⟩ : ∃ m, k = m + 1 := ⟨k - 1, by omega⟩
    simp only [tartanref06_RestA.l0]
    rw [if_neg (by omega), show i = n.toNat from by omega]
  | succ d ih =>
    intro i k hi hk
    obtain ⟨k, rfl⟩ : ∃ m, k = m + 1 := ⟨k - 1, by omega⟩
    rw [Nat.succ_mul] at hk
    simp only [tartanref06_RestA.l0]
    rw [if_pos (by omega)]
    exact refRestA_l1 l n hl hn i (d * (l.length + 3)) (by omega) (fun k' h => ih (i + 1) k' (by omega) h) l.length k 0 (by omega) (by omega)
theorem refRestA_some {l : List PS} {n : Int} (hl : l.length ≤ 100000) (hn : n ≤ 100000) {k : Nat} (hk : n.toNat * (l.length + 3) < k) : tartanref06_RestA.f k l n = some (restR (l.map (·.f0)) n.toNat) :=
  refRestA_l0 l n hl hn n.toNat 0 k (by omega) hk
theorem refRestB_l1 (l : List PS) (n : Int) (hl : l.length ≤ 100000) (hn : n ≤ 100000) (i F : Nat) (hi : (i : Int) < n)
    (H : ∀ (k : Nat), F < k → tartanref06_RestB.l0 k l n (restR (l.map (·.f1)) (i + 1)) ((i + 1 : Nat) : Int) = some (restR (l.map (·.f1)) n.toNat)) :
    ∀ (e k j : Nat), j + e = l.length → e + F + 1 < k → tartanref06_RestB.l1 k l n (restR (l.map (·.f1)) i) (i : Nat) (((l.take j).map (·.f1)).any (fun x => x == (i : Int))) (j : Nat) = some (restR (l.map (·.f1)) n.toNat) := by
  intro e
  induction e with
  | zero =>
    intro k j hj hk
    obtain ⟨k, rfl⟩ : ∃ m, k = m + 1 := ⟨k - 1, by omega⟩
    have h := H k (by omega)
    have hle := restR_le (l.map (·.f1)) i
    rw [restR_next] at h
    simp only [tartanref06_RestB.l1]
    rw [if_neg (by omega), List.take_of_length_le (by omega), wrap_up _ (by omega)]
    by_cases c : (l.map (·.f1)).any (fun x => x == (i : Int)) = true
    · rw [if_pos c]; rw [if_pos c] at h; exact h
    · rw [if_neg c, if_pos (by omega)]; rw [if_neg c] at h; exact h
  | succ e ih =>
    intro k j hj hk
    obtain ⟨k, rfl⟩ : ∃ m, k = m + 1 := ⟨k - 1, by omega⟩
    have ih' := ih k (j + 1) (by omega) (by omega)
    rw [take_rdP (by omega), List.map_append, List.any_append] at ih'
    simp only [tartanref06_RestB.l1]
    rw [if_pos (by omega), wrap_up j (by omega)]
    cases c : ((l.take j).map (·.f1)).any (fun x => x == (i : Int))
    · rw [c] at ih'
      rw [if_neg (by decide), if_pos (by omega)]
      simpa using ih'
    · rw [c] at ih'
      rw [if_pos rfl]
      simpa using ih'
theorem refRestB_l0 (l : List PS) (n : Int) (hl : l.length ≤ 100000) (hn : n ≤ 100000) : ∀ (d i k : Nat), i + d = n.toNat → d * (l.length + 3) < k → tartanref06_RestB.l0 k l n (restR (l.map (·.f1)) i) (i : Nat) = some (restR (l.map (·.f1)) n.toNat) := by
  intro d
  induction d with
  | zero =>
    intro i k hi hk
    obtain ⟨k, rfl⟩ : ∃ m, k = m + 1 := ⟨k - 1, by omega⟩
    simp only [tartanref06_RestB.l0]
    rw [if_neg (by omega), show i = n.toNat from by omega]
  | succ d ih =>
    intro i k hi hk
    obtain ⟨k, rfl⟩ : ∃ m, k = m + 1 := ⟨k - 1, by omega⟩
    rw [Nat.succ_mul] at hk
    simp only [tartanref06_RestB.l0]
    rw [if_pos (by omega)]
    exact refRestB_l1 l n hl hn i (d * (l.length + 3)) (by omega) (fun k' h => ih (i + 1) k' (by omega) h) l.length k 0 (by omega) (by omega)
theorem refRestB_some {l : List PS} {n : Int} (hl : l.length ≤ 100000) (hn : n ≤ 100000) {k : Nat} (hk : n.toNat * (l.length + 3) < k) : tartanref06_RestB.f k l n = some (restR (l.map (·.f1)) n.toNat) :=
  refRestB_l0 l n hl hn n.toNat 0 k (by omega) hk
end Go.Proofs.Ytphmnjapjalfgaa.X
