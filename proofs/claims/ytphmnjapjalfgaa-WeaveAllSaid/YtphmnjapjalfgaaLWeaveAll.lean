/- WeaveAll: for every input the law returns true, and its arguments read as they did. -/
import Derived.Test.YtphmnjapjalfgaaX2
import Derived.Test.YtphmnjapjalfgaaX12
import Derived.Test.YtphmnjapjalfgaaX3
import Derived.Test.YtphmnjapjalfgaaX6
import Derived.Test.YtphmnjapjalfgaaX4
import Derived.Test.YtphmnjapjalfgaaGPairs5
import Derived.Test.YtphmnjapjalfgaaROpen
import Derived.Test.YtphmnjapjalfgaaGOrder
import Derived.Test.YtphmnjapjalfgaaX8
import Derived.Test.YtphmnjapjalfgaaX13
import Derived.Test.YtphmnjapjalfgaaRows
import Derived.WalkKit
import Derived.ProofKit
import Derived.OpenShut
import Derived.ShutString
import Derived.ChangeOld
import Derived.Below
section
/- What the reference of layer 6 computes: the same as the program's functions. -/
namespace Go.Proofs.Ytphmnjapjalfgaa.X
open Go.RowKit Go.Proofs.YtphmnjapjalfgaaW.PrintWords
set_option linter.unusedVariables false

theorem wrap_in {n : Int} (h0 : -1000000000000 ≤ n) (h1 : n ≤ 1000000000000) : wrap64 n = n := by unfold wrap64; omega
theorem wrap_up (i : Nat) (h : i ≤ 1000000000) : wrap64 ((i : Int) + 1) = ((i + 1 : Nat) : Int) := by rw [wrap_in (by omega) (by omega)]; omega
theorem dropP {l : List PS} {t : Nat} (h : t < l.length) : l.drop t = rd_T37 l (t : Int) :: l.drop (t + 1) := by
  unfold rd_T37
  rw [List.drop_eq_getElem_cons h, show ((t : Int)).toNat = t from rfl, List.getD_eq_getElem?_getD, List.getElem?_eq_getElem h]; rfl
theorem dropI {l : List Int} {t : Nat} (h : t < l.length) : l.drop t = rd l (t : Int) :: l.drop (t + 1) := by
  unfold rd
  rw [List.drop_eq_getElem_cons h, show ((t : Int)).toNat = t from rfl, List.getD_eq_getElem?_getD, List.getElem?_eq_getElem h]; rfl

def eqP (p q : PS) : Bool := p.f0 == q.f0 && p.f1 == q.f1
theorem eqP_iff {p q : PS} : eqP p q = true ↔ p = q := by
  cases p; cases q; simp [eqP]
def sameB : List PS → List PS → Bool
  | [], [] => true
  | p :: a, q :: b => eqP p q && sameB a b
  | _, _ => false
theorem sameB_iff : ∀ {a b : List PS}, sameB a b = true ↔ a = b
  | [], [] => by simp [sameB]
  | [], _ :: _ => by simp [sameB]
  | _ :: _, [] => by simp [sameB]
  | p :: a, q :: b => by simp [sameB, eqP_iff, sameB_iff]
theorem sameB_refl (a : List PS) : sameB a a = true := sameB_iff.2 rfl
theorem refSame_l0 (a b : List PS) (hab : a.length = b.length) (ha : a.length ≤ 100000) : ∀ (d k i : Nat), i + d = a.length → d < k → tartanref06_Same.l0 k a b (i : Nat) = some (sameB (a.drop i) (b.drop i)) := by
  intro d
  induction d with
  | zero =>
    intro k i hi hk
    obtain ⟨k, rfl⟩ : ∃ m, k = m + 1 := ⟨k - 1, by omega⟩
    simp only [tartanref06_Same.l0]
    rw [if_neg (by omega), List.drop_eq_nil_of_le (by omega), List.drop_eq_nil_of_le (by omega)]; rfl
  | succ d ih =>
    intro k i hi hk
    obtain ⟨k, rfl⟩ : ∃ m, k = m + 1 := ⟨k - 1, by omega⟩
    have ih' := ih k (i + 1) (by omega) (by omega)
    simp only [tartanref06_Same.l0]
    rw [if_pos (by omega), if_pos (by omega), if_pos (by omega), wrap_up _ (by omega), ih', dropP (l := a) (t := i) (by omega), dropP (l := b) (t := i) (by omega)]
    show _ = some (eqP _ _ && sameB _ _)
    unfold eqP
    cases (rd_T37 a (i : Int)).f0 == (rd_T37 b (i : Int)).f0 <;> cases (rd_T37 a (i : Int)).f1 == (rd_T37 b (i : Int)).f1 <;> simp
theorem sameB_len {a b : List PS} (h : ¬ a.length = b.length) : sameB a b = false := by
  rw [Bool.eq_false_iff]; intro h2; exact h (by rw [sameB_iff.1 h2])
theorem refSame_some {a b : List PS} (ha : a.length ≤ 100000) {k : Nat} (hk : a.length < k) : tartanref06_Same.f k a b = some (sameB a b) := by
  unfold tartanref06_Same.f
  by_cases e : a.length = b.length
  · rw [if_pos (by omega)]
    exact refSame_l0 a b e ha a.length k 0 (by omega) hk
  · rw [if_neg (by omega), sameB_len e]
theorem refInts_l0 (a b : List Int) (hab : a.length = b.length) (ha : a.length ≤ 1000000) : ∀ (d k i : Nat), i + d = a.length → d < k → tartanref06_Ints.l0 k a b (i : Nat) = some (decide (a.drop i = b.drop i)) := by
  intro d
  induction d with
  | zero =>
    intro k i hi hk
    obtain ⟨k, rfl⟩ : ∃ m, k = m + 1 := ⟨k - 1, by omega⟩
    simp only [tartanref06_Ints.l0]
    rw [if_neg (by omega), List.drop_eq_nil_of_le (by omega), List.drop_eq_nil_of_le (by omega)]; simp
  | succ d ih =>
    intro k i hi hk
    obtain ⟨k, rfl⟩ : ∃ m, k = m + 1 := ⟨k - 1, by omega⟩
    have ih' := ih k (i + 1) (by omega) (by omega)
    simp only [tartanref06_Ints.l0]
    rw [if_pos (by omega), if_pos (by omega), if_pos (by omega), wrap_up _ (by omega), ih', dropI (l := a) (t := i) (by omega), dropI (l := b) (t := i) (by omega)]
    by_cases e : rd a (i : Int) = rd b (i : Int)
    · rw [if_pos e]; simp [e]
    · rw [if_neg e]; simp [e]
theorem refInts_some {a b : List Int} (ha : a.length ≤ 1000000) {k : Nat} (hk : a.length < k) : tartanref06_Ints.f k a b = some (decide (a = b)) := by
  unfold tartanref06_Ints.f
  by_cases e : a.length = b.length
  · rw [if_pos (by omega)]
    exact refInts_l0 a b e ha a.length k 0 (by omega) hk
  · rw [if_neg (by omega)]
    rw [decide_eq_false]
    intro h; exact e (by rw [h])

theorem refLong_l1 (l : List PS) (hl : l.length ≤ 100000) (i : Nat) (hi : i < l.length) : ∀ (d k K : Nat) (r : List Int), k + d = l.length → i < k → r.length = l.length → (∀ q, i < q → q < l.length → r.getD q 0 = (((lng (As l)).getD q 0 : Nat) : Int)) →
    r.getD i 0 = ((mxAfter ((As l).getD i 0) (((As l).drop (i + 1)).take (k - (i + 1))) (((lng (As l)).drop (i + 1)).take (k - (i + 1))) + 1 : Nat) : Int) →
    ∃ r', r'.length = l.length ∧ (∀ q, i ≤ q → q < l.length → r'.getD q 0 = (((lng (As l)).getD q 0 : Nat) : Int)) ∧ tartanref06_Long.l1 (K + d + 1) l r (i : Nat) (k : Nat) = tartanref06_Long.l0 K l r' ((i : Int) - 1) := by
  have hAl : (As l).length = l.length := by simp
  have hNl : (lng (As l)).length = l.length := by rw [lng_len, hAl]
  intro d
  induction d with
  | zero =>
    intro k K r hk hik hr hq hri
    refine ⟨r, hr, fun q h1 h2 => ?_, ?_⟩
    · rcases Nat.lt_or_ge i q with h | h
      · exact hq q h h2
      · obtain rfl : q = i := by omega
        rw [hri, List.take_of_length_le (by rw [List.length_drop]; omega), List.take_of_length_le (by rw [List.length_drop]; omega), lng_at _ _ (by omega)]
    · rw [show K + 0 + 1 = K + 1 from rfl]
      simp only [tartanref06_Long.l1]
      rw [if_neg (by omega), wrap_in6 (by omega) (by omega)]
  | succ d ih =>
    intro k K r hk hik hr hq hri
    have hkl : k < l.length := by omega
    have eA : ((As l).drop (i + 1)).take (k + 1 - (i + 1)) = ((As l).drop (i + 1)).take (k - (i + 1)) ++ [(As l).getD k 0] := by
      rw [show k + 1 - (i + 1) = (k - (i + 1)) + 1 from by omega, takeSucc 0 _ _ _ (by omega), show i + 1 + (k - (i + 1)) = k from by omega]
    have eN : ((lng (As l)).drop (i + 1)).take (k + 1 - (i + 1)) = ((lng (As l)).drop (i + 1)).take (k - (i + 1)) ++ [(lng (As l)).getD k 0] := by
      rw [show k + 1 - (i + 1) = (k - (i + 1)) + 1 from by omega, takeSucc 0 _ _ _ (by omega), show i + 1 + (k - (i + 1)) = k from by omega]
    have ih' := ih (k + 1) K
    have hsn := mxAfter_snoc ((As l).getD i 0) ((As l).getD k 0) ((lng (As l)).getD k 0) (((As l).drop (i + 1)).take (k - (i + 1))) (((lng (As l)).drop (i + 1)).take (k - (i + 1))) (by rw [List.length_take, List.length_take, List.length_drop, List.length_drop, hAl, hNl])
    rw [← eA, ← eN] at hsn
    have hb := lng_getD_le (As l) k
    rw [hAl] at hb
    have hrk : rd r (k : Int) = (((lng (As l)).getD k 0 : Nat) : Int) := hq k hik hkl
    have hri' : rd r (i : Int) = ((mxAfter ((As l).getD i 0) (((As l).drop (i + 1)).take (k - (i + 1))) (((lng (As l)).drop (i + 1)).take (k - (i + 1))) + 1 : Nat) : Int) := hri
    have a1 := As_get l hkl
    have a2 := As_get l hi
    obtain ⟨F, hF⟩ : ∃ F, K + d + 1 = F := ⟨_, rfl⟩
    rw [hF] at ih'
    rw [show K + (d + 1) + 1 = F + 1 from by omega]
    simp only [tartanref06_Long.l1]
    rw [show wrap64 ((k : Int) + 1) = ((k + 1 : Nat) : Int) from by rw [wrap_in6 (by omega) (by omega)]; omega]
    rw [if_pos (by omega), if_pos (by omega), if_pos (by omega), if_pos (by omega), ← a1, ← a2]
    generalize mxAfter ((As l).getD i 0) (((As l).drop (i + 1)).take (k - (i + 1))) (((lng (As l)).drop (i + 1)).take (k - (i + 1))) = M at *
    by_cases c : (As l).getD i 0 < (As l).getD k 0
    · rw [if_pos (show (As l).getD k 0 > (As l).getD i 0 from c), if_pos (show (i : Int) < (r.length : Int) from by omega), if_pos (show (k : Int) < (r.length : Int) from by omega), hrk, hri', wrap_in6 (n := (((lng (As l)).getD k 0 : Nat) : Int) + 1) (by omega) (by omega)]
      rw [if_pos c] at hsn
      refine ih' _ (by omega) (by omega) ?_ (fun q h1 h2 => ?_) ?_
      · rw [List.length_set]; exact hr
      · rw [show ((i : Int)).toNat = i from rfl, setI _ _ _ _ (by omega), if_neg (by omega)]; exact hq q h1 h2
      · rw [show ((i : Int)).toNat = i from rfl, setI _ _ _ _ (by omega), if_pos rfl, hsn]
        unfold mx
        split <;> omega
    · rw [if_neg (by omega)]
      rw [if_neg c] at hsn
      refine ih' r (by omega) (by omega) hr hq ?_
      rw [hri, hsn]; simp
theorem refLong_l0 (l : List PS) (hl : l.length ≤ 100000) : ∀ (d K : Nat) (r : List Int), d ≤ l.length → r.length = l.length → (∀ q, d ≤ q → q < l.length → r.getD q 0 = (((lng (As l)).getD q 0 : Nat) : Int)) → d * (l.length + 3) < K →
    tartanref06_Long.l0 K l r ((d : Int) - 1) = some (lngI l) := by
  intro d
  induction d with
  | zero =>
    intro K r hd hr hq hK
    obtain ⟨K, rfl⟩ : ∃ m, K = m + 1 := ⟨K - 1, by omega⟩
    simp only [tartanref06_Long.l0]
    rw [if_neg (by omega), eq_lngI l r hr (fun q h => hq q (Nat.zero_le _) h)]
  | succ d ih =>
    intro K r hd hr hq hK
    obtain ⟨K, rfl⟩ : ∃ m, K = m + 1 := ⟨K - 1, by omega⟩
    have hdl : d < l.length := by omega
    rw [Nat.add_mul] at hK
    have e0 : (((d + 1 : Nat) : Int) - 1) = (d : Int) := by omega
    rw [e0]
    obtain ⟨r', h1, h2, h3⟩ := refLong_l1 l hl d hdl (l.length - (d + 1)) (d + 1) (K - (l.length - (d + 1)) - 1) (r.set d 1) (by omega) (by omega) (by rw [List.length_set]; exact hr)
      (fun q g1 g2 => by rw [setI _ _ _ _ (by omega), if_neg (by omega)]; exact hq q (by omega) g2) (by rw [setI _ _ _ _ (by omega), if_pos rfl, Nat.sub_self]; simp [mxAfter])
    rw [show K - (l.length - (d + 1)) - 1 + (l.length - (d + 1)) + 1 = K from by omega] at h3
    have h4 := ih (K - (l.length - (d + 1)) - 1) r' (by omega) h1 h2 (by omega)
    simp only [tartanref06_Long.l0]
    rw [show wrap64 ((d : Int) + 1) = ((d + 1 : Nat) : Int) from by rw [wrap_in6 (by omega) (by omega)]; omega]
    rw [if_pos (by omega), if_pos (by omega), if_pos (by omega), show ((d : Int)).toNat = d from rfl]
    exact h3.trans h4
theorem refLong_some (l : List PS) (hl : l.length ≤ 100000) {K : Nat} (hK : l.length * (l.length + 3) < K) : tartanref06_Long.f K l = some (lngI l) := by
  unfold tartanref06_Long.f
  rw [if_pos (by omega), show ((l.length : Int)).toNat = l.length from rfl, if_pos (by omega), wrap_in6 (by omega) (by omega)]
  exact refLong_l0 l hl l.length K _ (Nat.le_refl _) (by simp) (fun q h1 h2 => by omega) hK

/-- Pairs through pairs. -/
theorem thr_cons (x y : List PS) (q : PS) : thr x (q :: y) = thrAt x q ++ thr x y := by simp [thr]
/-- Those in no pair. -/
theorem restR_next (xs : List Int) (i : Nat) : restR xs (i + 1) = if xs.any (fun x => x == (i : Int)) = true then restR xs i else restR xs i ++ [(i : Int)] := by
  rw [restR_succ]
  by_cases c : xs.count (i : Int) = 0
  · rw [if_pos c, if_neg]
    rw [List.count_eq_zero] at c
    simp only [List.any_eq_true, beq_iff_eq, not_exists, not_and]
    intro x hx e; exact c (e ▸ hx)
  · rw [if_neg c, if_pos, List.append_nil]
    have h : (i : Int) ∈ xs := by rw [← List.count_pos_iff]; omega
    simp only [List.any_eq_true, beq_iff_eq]
    exact ⟨_, h, rfl⟩
theorem refRestA_l1 (l : List PS) (n : Int) (hl : l.length ≤ 100000) (hn : n ≤ 100000) (i F : Nat) (hi : (i : Int) < n)
    (H : ∀ (k : Nat), F < k → tartanref06_RestA.l0 k l n (restR (l.map (·.f0)) (i + 1)) ((i + 1 : Nat) : Int) = some (restR (l.map (·.f0)) n.toNat)) :
    ∀ (e k j : Nat), j + e = l.length → e + F + 1 < k → tartanref06_RestA.l1 k l n (restR (l.map (·.f0)) i) (i : Nat) (((l.take j).map (·.f0)).any (fun x => x == (i : Int))) (j : Nat) = some (restR (l.map (·.f0)) n.toNat) := by
  intro e
  induction e with
  | zero =>
    intro k j hj hk
    obtain ⟨k, rfl⟩ : ∃ m, k = m + 1 := ⟨k - 1, by omega⟩
    have h := H k (by omega)
    have hle := restR_le (l.map (·.f0)) i
    rw [restR_next] at h
    simp only [tartanref06_RestA.l1]
    rw [if_neg (by omega), List.take_of_length_le (by omega), wrap_up _ (by omega)]
    by_cases c : (l.map (·.f0)).any (fun x => x == (i : Int)) = true
    · rw [if_pos c]; rw [if_pos c] at h; exact h
    · rw [if_neg c, if_pos (by omega)]; rw [if_neg c] at h; exact h
  | succ e ih =>
    intro k j hj hk
    obtain ⟨k, rfl⟩ : ∃ m, k = m + 1 := ⟨k - 1, by omega⟩
    have ih' := ih k (j + 1) (by omega) (by omega)
    rw [take_rdP (by omega), List.map_append, List.any_append] at ih'
    simp only [tartanref06_RestA.l1]
    rw [if_pos (by omega), wrap_up j (by omega)]
    cases c : ((l.take j).map (·.f0)).any (fun x => x == (i : Int))
    · rw [c] at ih'
      rw [if_neg (by decide), if_pos (by omega)]
      simpa using ih'
    · rw [c] at ih'
      rw [if_pos rfl]
      simpa using ih'
theorem refRestA_l0 (l : List PS) (n : Int) (hl : l.length ≤ 100000) (hn : n ≤ 100000) : ∀ (d i k : Nat), i + d = n.toNat → d * (l.length + 3) < k → tartanref06_RestA.l0 k l n (restR (l.map (·.f0)) i) (i : Nat) = some (restR (l.map (·.f0)) n.toNat) := by
  intro d
  induction d with
  | zero =>
    intro i k hi hk
    obtain ⟨k, rfl⟩ : ∃ m, k = m + 1 := ⟨k - 1, by omega⟩
    simp only [tartanref06_RestA.l0]
    rw [if_neg (by omega), show i = n.toNat from by omega]
  | succ d ih =>
    intro i k hi hk
    obtain ⟨k, rfl⟩ : ∃ m, k = m + 1 := ⟨k - 1, by omega⟩
    rw [Nat.succ_mul] at hk
    simp only [tartanref06_RestA.l0]
    rw [if_pos (by omega)]
    exact refRestA_l1 l n hl hn i (d * (l.length + 3)) (by omega) (fun k' h => ih (i + 1) k' (by omega) h) l.length k 0 (by omega) (by omega)
theorem refRestA_some {l : List PS} {n : Int} (hl : l.length ≤ 100000) (hn : n ≤ 100000) {k : Nat} (hk : n.toNat * (l.length + 3) < k) : tartanref06_RestA.f k l n = some (restR (l.map (·.f0)) n.toNat) :=
  refRestA_l0 l n hl hn n.toNat 0 k (by omega) hk
end Go.Proofs.Ytphmnjapjalfgaa.X
end
section
/- The reference's Still and Check compute what the program's compute. -/
namespace Go.Proofs.Ytphmnjapjalfgaa.X
open Go.RowKit Go.Proofs.YtphmnjapjalfgaaW.PrintWords
set_option linter.unusedVariables false

theorem mx_max (a b : Int) : mx a b = max a b := by unfold mx; split <;> omega
theorem refStill_l0 (l : List PS) (ns : List Int) (hn : ns.length ≤ 100000) (r : Option (List Int)) (F : Nat) (want0 : Int) (H : ∀ k', F < k' → tartanref06_Still.l1 k' l ns want0 [] 0 = r) :
    ∀ (d k i : Nat) (want : Int), i + d = ns.length → d + F + 1 < k → (ns.drop i).foldl max want = want0 → tartanref06_Still.l0 k l ns want (i : Nat) = r := by
  intro d
  induction d with
  | zero =>
    intro k i want hi hk hw
    obtain ⟨k, rfl⟩ : ∃ m, k = m + 1 := ⟨k - 1, by omega⟩
    rw [List.drop_eq_nil_of_le (by omega)] at hw
    simp only [tartanref06_Still.l0]
    rw [if_neg (by omega)]
    simp only [List.foldl_nil] at hw
    rw [hw]; exact H k (by omega)
  | succ d ih =>
    intro k i want hi hk hw
    obtain ⟨k, rfl⟩ : ∃ m, k = m + 1 := ⟨k - 1, by omega⟩
    rw [dropI (by omega), List.foldl_cons] at hw
    simp only [tartanref06_Still.l0]
    rw [if_pos (by omega), if_pos (by omega), wrap_up _ (by omega), mx_max]
    exact ih k (i + 1) _ (by omega) (by omega) hw
theorem refStill_l1 (l : List PS) (hl : l.length ≤ 100000) : ∀ (d k i : Nat), i + d = l.length → d < k → tartanref06_Still.l1 k l (lngI l) (stAt l i).1 (stAt l i).2 (i : Nat) = some (stillR l) := by
  have hL := lngI_len l
  intro d
  induction d with
  | zero =>
    intro k i hi hk
    obtain ⟨k, rfl⟩ : ∃ m, k = m + 1 := ⟨k - 1, by omega⟩
    simp only [tartanref06_Still.l1]
    rw [if_neg (by omega)]
    obtain rfl : i = l.length := by omega
    rfl
  | succ d ih =>
    intro k i hi hk
    obtain ⟨k, rfl⟩ : ∃ m, k = m + 1 := ⟨k - 1, by omega⟩
    have ih' := ih k (i + 1) (by omega) (by omega)
    have hlen := stAt_len l i
    have hmem := stAt_mem l i
    have hp := lngI_pos l (t := i) (by omega)
    have hq := lngI_le l (t := i) (by omega)
    rw [stAt_succ] at ih'
    unfold stepS at ih'
    generalize hst : stAt l i = st at *
    obtain ⟨want, out⟩ := st
    simp only at *
    simp only [tartanref06_Still.l1]
    rw [if_pos (by omega)]
    by_cases h0 : out.length = 0
    · rw [if_pos (by omega), if_pos (by omega), if_pos (by omega)]
      by_cases h1 : rd (lngI l) (i : Int) = want
      · rw [if_pos ⟨h1, .inl h0⟩] at ih'
        rw [if_pos h1, if_pos (by omega), if_pos (by omega), wrap_up _ (by omega), wrap_in (n := want - 1) (by omega) (by omega)]
        exact ih'
      · rw [if_neg (fun h => h1 h.1)] at ih'
        rw [if_neg h1, wrap_up _ (by omega)]
        exact ih'
    · have hk1 : out.length - 1 < out.length := by omega
      have hrm : rd out ((out.length - 1 : Nat) : Int) ∈ out := by
        unfold rd
        rw [show (((out.length - 1 : Nat) : Int)).toNat = out.length - 1 from rfl, List.getD_eq_getElem?_getD, List.getElem?_eq_getElem hk1]
        exact List.getElem_mem _
      obtain ⟨hj0, hj1⟩ := hmem _ hrm
      have e1 : wrap64 ((out.length : Int) - 1) = ((out.length - 1 : Nat) : Int) := by rw [wrap_in (by omega) (by omega)]; omega
      rw [if_neg (by omega), if_pos (by omega), e1, if_pos (by omega), if_pos (by omega), if_pos (by omega), if_pos (by omega), if_pos (by omega)]
      by_cases h1 : rd (lngI l) (i : Int) = want
      · rw [if_pos h1]
        by_cases h2 : (rd_T37 l (rd out ((out.length - 1 : Nat) : Int))).f0 < (rd_T37 l (i : Int)).f0
        · rw [if_pos ⟨h1, .inr h2⟩] at ih'
          rw [if_pos h2, if_pos (by omega), if_pos (by omega), wrap_up _ (by omega), wrap_in (n := want - 1) (by omega) (by omega)]
          exact ih'
        · rw [if_neg (fun h => h.2.elim h0 h2)] at ih'
          rw [if_neg h2, wrap_up _ (by omega)]
          exact ih'
      · rw [if_neg (fun h => h1 h.1)] at ih'
        rw [if_neg h1, wrap_up _ (by omega)]
        exact ih'
theorem fold_max0 (xs : List Int) (h : ∀ x ∈ xs, 0 ≤ x) : xs.foldl max 0 = if xs.length = 0 then 0 else xs.foldl max (rd xs 0) := by
  cases xs with
  | nil => rfl
  | cons x t =>
    have := h x List.mem_cons_self
    rw [if_neg (by simp)]
    show t.foldl max (max 0 x) = t.foldl max (max x x)
    rw [show max 0 x = x from by omega, show max x x = x from by omega]
theorem lngI_nonneg (l : List PS) : ∀ x ∈ lngI l, 0 ≤ x := by
  intro x hx
  unfold lngI at hx
  obtain ⟨n, _, rfl⟩ := List.mem_map.1 hx
  omega
theorem refStill_some {l : List PS} (hl : l.length ≤ 100000) {k : Nat} (hk : l.length * (l.length + 3) + 2 * l.length + 2 < k) : tartanref06_Still.f k l = some (stillR l) := by
  unfold tartanref06_Still.f
  rw [refLong_some l hl (by omega), Option.bind_some]
  have hL := lngI_len l
  by_cases h : l.length = 0
  · obtain rfl := List.eq_nil_of_length_eq_zero h
    refine refStill_l0 [] (lngI []) (by omega) _ 1 0 (fun k' hk' => ?_) 0 k 0 0 (by simp [lngI_len]) (by simp at hk; omega) rfl
    obtain ⟨k', rfl⟩ : ∃ m, k' = m + 1 := ⟨k' - 1, by omega⟩
    simp only [tartanref06_Still.l1]
    rw [if_neg (by simp)]; rfl
  · refine refStill_l0 l (lngI l) (by omega) _ (l.length) ((lngI l).foldl max (rd (lngI l) 0)) (fun k' hk' => ?_) l.length k 0 0 (by omega) (by omega) ?_
    · exact refStill_l1 l hl l.length k' 0 (by omega) (by omega)
    · rw [List.drop_zero, fold_max0 _ (lngI_nonneg l), if_neg (by omega)]
theorem still_len (l : List PS) : (stillR l).length ≤ l.length := stAt_len l l.length

/-- Whether they may be pairs. -/
theorem rdP_get {l : List PS} {i : Nat} (h : i < l.length) : rd_T37 l (i : Int) = l[i] := by
  unfold rd_T37
  rw [show ((i : Int)).toNat = i from rfl, List.getD_eq_getElem?_getD, List.getElem?_eq_getElem h]; rfl
section
variable {l : List PS} {na nb : Int}
theorem chk11 (h0 : ¬ (na < 0 ∨ nb < 0)) {i : Nat} (hi : i < l.length) (hn : inP na nb (rd_T37 l (i : Int)) = false) : checkR l na nb = 11 := by
  unfold checkR
  rw [if_neg h0, if_pos]
  rw [List.all_eq_false]
  exact ⟨_, rdP_mem hi, by rw [hn]; decide⟩
theorem chk10 (h0 : ¬ (na < 0 ∨ nb < 0)) (hall : l.all (inP na nb) = true) {j i : Nat} (hij : j < i) (hi : i < l.length)
    (h : (rd_T37 l (j : Int)).f0 = (rd_T37 l (i : Int)).f0 ∨ (rd_T37 l (j : Int)).f1 = (rd_T37 l (i : Int)).f1) : checkR l na nb = 10 := by
  unfold checkR
  rw [if_neg h0, if_neg (by rw [hall]; decide), if_pos]
  rintro ⟨n0, n1⟩
  rw [rdP_get hi, rdP_get (Nat.lt_trans hij hi)] at h
  rcases h with h | h
  · exact (List.pairwise_iff_getElem.1 n0) j i (by simp; omega) (by simp; omega) hij (by simpa using h)
  · exact (List.pairwise_iff_getElem.1 n1) j i (by simp; omega) (by simp; omega) hij (by simpa using h)
theorem chk12 (h0 : ¬ (na < 0 ∨ nb < 0)) (hall : l.all (inP na nb) = true) (hnd : (l.map (·.f0)).Nodup ∧ (l.map (·.f1)).Nodup) {i : Nat} (hi : i + 1 < l.length)
    (h : (rd_T37 l ((i + 1 : Nat) : Int)).f1 < (rd_T37 l (i : Int)).f1) : checkR l na nb = 12 := by
  unfold checkR
  rw [if_neg h0, if_neg (by rw [hall]; decide), if_neg (fun h => h hnd), if_neg]
  intro h2
  rw [List.all_eq_true] at h2
  have h3 := of_decide_eq_true (h2 i (List.mem_range.2 (by omega)))
  omega
theorem chk0 (h0 : ¬ (na < 0 ∨ nb < 0)) (hall : l.all (inP na nb) = true) (hnd : (l.map (·.f0)).Nodup ∧ (l.map (·.f1)).Nodup)
    (h : ∀ i : Nat, i + 1 < l.length → (rd_T37 l (i : Int)).f1 ≤ (rd_T37 l ((i + 1 : Nat) : Int)).f1) : checkR l na nb = 0 := by
  unfold checkR
  rw [if_neg h0, if_neg (by rw [hall]; decide), if_neg (fun h => h hnd), if_pos]
  rw [List.all_eq_true]
  intro i hi
  have := List.mem_range.1 hi
  exact decide_eq_true (h i (by omega))
theorem refCheck_l3 (hl : l.length ≤ 100000) (h0 : ¬ (na < 0 ∨ nb < 0)) (hall : l.all (inP na nb) = true) (hnd : (l.map (·.f0)).Nodup ∧ (l.map (·.f1)).Nodup) : ∀ (d k i : Nat), l.length ≤ i + d → d < k → 1 ≤ i →
    (∀ t : Nat, t + 1 < i → t + 1 < l.length → (rd_T37 l (t : Int)).f1 ≤ (rd_T37 l ((t + 1 : Nat) : Int)).f1) → i ≤ 200000 → tartanref06_Check.l3 k l (i : Nat) = some (checkR l na nb) := by
  intro d
  induction d with
  | zero =>
    intro k i hi hk h1 h hb
    obtain ⟨k, rfl⟩ : ∃ m, k = m + 1 := ⟨k - 1, by omega⟩
    simp only [tartanref06_Check.l3]
    rw [if_neg (by omega), chk0 h0 hall hnd (fun t ht => h t (by omega) ht)]
  | succ d ih =>
    intro k i hi hk h1 h hb
    obtain ⟨k, rfl⟩ : ∃ m, k = m + 1 := ⟨k - 1, by omega⟩
    have e1 : wrap64 ((i : Int) - 1) = ((i - 1 : Nat) : Int) := by rw [wrap_in (by omega) (by omega)]; omega
    simp only [tartanref06_Check.l3]
    by_cases hlt : i < l.length
    · rw [if_pos (by omega), if_pos (by omega), e1, if_pos (by omega), if_pos (by omega)]
      by_cases c : (rd_T37 l (i : Int)).f1 < (rd_T37 l ((i - 1 : Nat) : Int)).f1
      · rw [if_pos c]
        obtain ⟨i, rfl⟩ : ∃ m, i = m + 1 := ⟨i - 1, by omega⟩
        rw [chk12 h0 hall hnd (i := i) (by omega) c]
      · rw [if_neg c, wrap_up _ (by omega)]
        refine ih k (i + 1) (by omega) (by omega) (by omega) (fun t ht ht2 => ?_) (by omega)
        rcases Nat.lt_or_ge (t + 1) i with h3 | h3
        · exact h t h3 ht2
        · obtain rfl : i = t + 1 := by omega
          rw [show t + 1 - 1 = t from rfl] at c
          omega
    · rw [if_neg (by omega), chk0 h0 hall hnd (fun t ht => h t (by omega) ht)]
theorem refCheck_l2 (hl : l.length ≤ 100000) (h0 : ¬ (na < 0 ∨ nb < 0)) (hall : l.all (inP na nb) = true) (i F : Nat) (hi : i < l.length)
    (H : (∀ j, j < i → (rd_T37 l (j : Int)).f0 ≠ (rd_T37 l (i : Int)).f0 ∧ (rd_T37 l (j : Int)).f1 ≠ (rd_T37 l (i : Int)).f1) → ∀ k, F < k → tartanref06_Check.l1 k l ((i + 1 : Nat) : Int) = some (checkR l na nb)) :
    ∀ (e k j : Nat), j + e = i → e + F + 1 < k → (∀ j', j' < j → (rd_T37 l (j' : Int)).f0 ≠ (rd_T37 l (i : Int)).f0 ∧ (rd_T37 l (j' : Int)).f1 ≠ (rd_T37 l (i : Int)).f1) → tartanref06_Check.l2 k l (i : Nat) (j : Nat) = some (checkR l na nb) := by
  intro e
  induction e with
  | zero =>
    intro k j hj hk h
    obtain ⟨k, rfl⟩ : ∃ m, k = m + 1 := ⟨k - 1, by omega⟩
    simp only [tartanref06_Check.l2]
    rw [if_neg (by omega), wrap_up _ (by omega)]
    exact H (fun j' hj' => h j' (by omega)) k (by omega)
  | succ e ih =>
    intro k j hj hk h
    obtain ⟨k, rfl⟩ : ∃ m, k = m + 1 := ⟨k - 1, by omega⟩
    simp only [tartanref06_Check.l2]
    rw [if_pos (by omega), if_pos (by omega), if_pos (by omega), if_pos (by omega), if_pos (by omega)]
    by_cases c0 : (rd_T37 l (j : Int)).f0 = (rd_T37 l (i : Int)).f0
    · rw [if_pos c0, chk10 h0 hall (j := j) (i := i) (by omega) hi (.inl c0)]
    · rw [if_neg c0]
      by_cases c1 : (rd_T37 l (j : Int)).f1 = (rd_T37 l (i : Int)).f1
      · rw [if_pos c1, chk10 h0 hall (j := j) (i := i) (by omega) hi (.inr c1)]
      · rw [if_neg c1, wrap_up _ (by omega)]
        refine ih k (j + 1) (by omega) (by omega) fun j' hj' => ?_
        rcases Nat.lt_or_ge j' j with h3 | h3
        · exact h j' h3
        · obtain rfl : j' = j := by omega
          exact ⟨c0, c1⟩
theorem refCheck_l1 (hl : l.length ≤ 100000) (h0 : ¬ (na < 0 ∨ nb < 0)) (hall : l.all (inP na nb) = true) : ∀ (d k i : Nat), i + d = l.length → d * (l.length + 3) + l.length + 2 < k →
    (∀ i' j, j < i' → i' < i → (rd_T37 l (j : Int)).f0 ≠ (rd_T37 l (i' : Int)).f0 ∧ (rd_T37 l (j : Int)).f1 ≠ (rd_T37 l (i' : Int)).f1) → tartanref06_Check.l1 k l (i : Nat) = some (checkR l na nb) := by
  intro d
  induction d with
  | zero =>
    intro k i hi hk h
    obtain ⟨k, rfl⟩ : ∃ m, k = m + 1 := ⟨k - 1, by omega⟩
    simp only [tartanref06_Check.l1]
    rw [if_neg (by omega)]
    refine refCheck_l3 hl h0 hall ⟨?_, ?_⟩ l.length k 1 (by omega) (by omega) (Nat.le_refl _) (fun t ht => by omega) (by omega)
    · refine List.pairwise_iff_getElem.2 fun j i' hj hi' hji => ?_
      simp only [List.length_map] at hj hi'
      have := (h i' j hji (by omega)).1
      rw [rdP_get hj, rdP_get hi'] at this
      simpa using this
    · refine List.pairwise_iff_getElem.2 fun j i' hj hi' hji => ?_
      simp only [List.length_map] at hj hi'
      have := (h i' j hji (by omega)).2
      rw [rdP_get hj, rdP_get hi'] at this
      simpa using this
  | succ d ih =>
    intro k i hi hk h
    obtain ⟨k, rfl⟩ : ∃ m, k = m + 1 := ⟨k - 1, by omega⟩
    rw [Nat.succ_mul] at hk
    simp only [tartanref06_Check.l1]
    rw [if_pos (by omega)]
    refine refCheck_l2 hl h0 hall i (d * (l.length + 3) + l.length + 2) (by omega) (fun hno k' hk' => ih k' (i + 1) (by omega) hk' fun i' j hj hi' => ?_) i k 0 (by omega) (by omega) (fun j' h => by omega)
    rcases Nat.lt_or_ge i' i with h3 | h3
    · exact h i' j hj h3
    · obtain rfl : i' = i := by omega
      exact hno j hj
theorem refCheck_l0 (hl : l.length ≤ 100000) (h0 : ¬ (na < 0 ∨ nb < 0)) : ∀ (d k i : Nat), i + d = l.length → d + l.length * (l.length + 3) + l.length + 3 < k → (l.take i).all (inP na nb) = true → tartanref06_Check.l0 k l na nb (i : Nat) = some (checkR l na nb) := by
  intro d
  induction d with
  | zero =>
    intro k i hi hk h
    obtain ⟨k, rfl⟩ : ∃ m, k = m + 1 := ⟨k - 1, by omega⟩
    rw [List.take_of_length_le (by omega)] at h
    simp only [tartanref06_Check.l0]
    rw [if_neg (by omega)]
    exact refCheck_l1 hl h0 h l.length k 0 (by omega) (by omega) (fun i' j h1 h2 => by omega)
  | succ d ih =>
    intro k i hi hk h
    obtain ⟨k, rfl⟩ : ∃ m, k = m + 1 := ⟨k - 1, by omega⟩
    have hN := fun hn => chk11 (l := l) (na := na) (nb := nb) h0 (i := i) (by omega) hn
    have ih' := ih k (i + 1) (by omega) (by omega)
    rw [take_rdP (by omega), List.all_append, h] at ih'
    simp only [List.all_cons, List.all_nil, Bool.and_true, Bool.true_and] at ih'
    unfold inP at ih' hN
    simp only [tartanref06_Check.l0]
    rw [if_pos (by omega), if_pos (by omega), wrap_up _ (by omega)]
    generalize rd_T37 l (i : Int) = p at *
    by_cases c : 0 ≤ p.f0 ∧ p.f0 < na ∧ 0 ≤ p.f1 ∧ p.f1 < nb
    · rw [if_neg (by omega), if_neg (by omega), if_neg (by omega), if_neg (by omega)]
      exact ih' (decide_eq_true c)
    · rw [hN (decide_eq_false c)]
      split
      · rfl
      · split
        · rfl
        · split
          · rfl
          · split
            · rfl
            · omega
theorem refCheck_some (hl : l.length ≤ 100000) {k : Nat} (hk : l.length * (l.length + 3) + 2 * l.length + 4 < k) : tartanref06_Check.f k l na nb = some (checkR l na nb) := by
  obtain ⟨k, rfl⟩ : ∃ m, k = m + 1 := ⟨k - 1, by omega⟩
  unfold tartanref06_Check.f
  by_cases h0 : na < 0 ∨ nb < 0
  · have e : checkR l na nb = 1 := by unfold checkR; rw [if_pos h0]
    rw [e]
    by_cases h1 : na < 0
    · rw [if_pos h1]; simp [tartanref06_Check.j0]
    · rw [if_neg h1]
      simp only [tartanref06_Check.j0]
      rw [if_pos (decide_eq_true (by omega))]
  · rw [if_neg (by omega), decide_eq_false (by omega)]
    simp only [tartanref06_Check.j0]
    rw [if_neg (by decide)]
    exact refCheck_l0 hl h0 l.length k 0 (by omega) (by omega) (by simp)
end
end Go.Proofs.Ytphmnjapjalfgaa.X
end
section
/- The guards of the laws of layers 6 and 7. -/
namespace Go.Proofs.Ytphmnjapjalfgaa.X
open Go.RowKit Go.Proofs.YtphmnjapjalfgaaW.PrintWords
theorem okP_of {l : List PS} (h : okT22 l) (hl : l.length ≤ 100000) : okP l = true := by
  unfold okP
  simp only [Bool.and_eq_true, decide_eq_true_eq, List.all_eq_true]
  exact ⟨hl, fun p hp => h.2 p hp⟩
theorem check_some {l : List PS} {na nb : Int} (h : okP l = true) : pairs_Check.f l na nb = some (checkR l na nb) := by unfold pairs_Check.f; rw [if_pos h]
theorem turn_some {l : List PS} (h : l.length ≤ 100000) : pairs_Turn.f l = some (turnR l) := by unfold pairs_Turn.f; rw [if_pos h]
theorem through_some {x y : List PS} (hx : x.length ≤ 100000) (hy : y.length ≤ 100000) : pairs_Through.f x y = some (thr x y) := by unfold pairs_Through.f; rw [if_pos ⟨hx, hy⟩]
theorem still_some {l : List PS} (h : l.length ≤ 100000) : pairs_Still.f l = some (stillR l) := by unfold pairs_Still.f; rw [if_pos h]
theorem restA_some {l : List PS} {na : Int} (h : okP l = true) (hn : na ≤ 100000) : pairs_RestA.f l na = some (restR (l.map (·.f0)) na.toNat) := by unfold pairs_RestA.f; rw [if_pos ⟨h, hn⟩]
theorem restB_some {l : List PS} {na : Int} (h : okP l = true) (hn : na ≤ 100000) : pairs_RestB.f l na = some (restR (l.map (·.f1)) na.toNat) := by unfold pairs_RestB.f; rw [if_pos ⟨h, hn⟩]
theorem fuel6 : ∃ k : Nat, 200000 ≤ k := ⟨200000, Nat.le_refl _⟩
end Go.Proofs.Ytphmnjapjalfgaa.X
end
section
/- Pairs that are turned and pairs through pairs: what the laws without the reference say of them. -/
namespace Go.Proofs.Ytphmnjapjalfgaa.X
open Go.RowKit Go.Proofs.YtphmnjapjalfgaaW.PrintWords
set_option linter.unusedVariables false

theorem mem_putP {s : List PS} {p z : PS} : z ∈ putP s p ↔ z = p ∨ z ∈ s := by
  have e := List.takeWhile_append_dropWhile (p := fun q : PS => decide (q.f1 ≤ p.f1)) (l := s)
  unfold putP
  constructor
  · intro h
    rcases List.mem_append.1 h with h | h
    · right; rw [← e]; exact List.mem_append_left _ h
    · rcases List.mem_cons.1 h with h | h
      · exact .inl h
      · right; rw [← e]; exact List.mem_append_right _ h
  · rintro (rfl | h)
    · exact List.mem_append_right _ List.mem_cons_self
    · rw [← e] at h
      rcases List.mem_append.1 h with h | h
      · exact List.mem_append_left _ h
      · exact List.mem_append_right _ (List.mem_cons_of_mem _ h)
theorem perm_putP (s : List PS) (p : PS) : (putP s p).Perm (p :: s) := by
  have e := List.takeWhile_append_dropWhile (p := fun q : PS => decide (q.f1 ≤ p.f1)) (l := s)
  unfold putP
  refine List.perm_middle.trans ?_
  rw [e]
theorem perm_fold : ∀ (ps s : List PS), (ps.foldl putP s).Perm (ps ++ s)
  | [], s => List.Perm.refl _
  | p :: ps, s => by
    rw [List.foldl_cons]
    refine (perm_fold ps _).trans ?_
    refine ((perm_putP s p).append_left ps).trans ?_
    exact List.perm_middle
theorem perm_turn (l : List PS) : (turnR l).Perm (l.map swp) := by
  have := perm_fold (l.map swp) []
  rwa [List.append_nil] at this
theorem swp_swp (p : PS) : swp (swp p) = p := rfl
theorem mem_turn {l : List PS} {z : PS} : z ∈ turnR l ↔ swp z ∈ l := by
  rw [(perm_turn l).mem_iff]
  constructor
  · intro h
    obtain ⟨p, hp, rfl⟩ := List.mem_map.1 h
    exact hp
  · intro h
    exact List.mem_map.2 ⟨_, h, swp_swp z⟩
abbrev StrB (s : List PS) : Prop := s.Pairwise fun p q => p.f1 < q.f1
/-- Lists in strict order that have the same members are the same. -/
theorem str_unique : ∀ (a b : List PS), StrB a → StrB b → (∀ z, z ∈ a ↔ z ∈ b) → a = b
  | [], [], _, _, _ => rfl
  | [], q :: b, _, _, h => by have := (h q).2 List.mem_cons_self; cases this
  | p :: a, [], _, _, h => by have := (h p).1 List.mem_cons_self; cases this
  | p :: a, q :: b, ha, hb, h => by
    have ha' := List.pairwise_cons.1 ha
    have hb' := List.pairwise_cons.1 hb
    have hpq : p = q := by
      rcases List.mem_cons.1 ((h p).1 List.mem_cons_self) with e | h1
      · exact e
      · rcases List.mem_cons.1 ((h q).2 List.mem_cons_self) with e | h2
        · exact e.symm
        · have := hb'.1 _ h1; have := ha'.1 _ h2; omega
    subst hpq
    rw [str_unique a b ha'.2 hb'.2 fun z => ?_]
    constructor
    · intro hz
      rcases List.mem_cons.1 ((h z).1 (List.mem_cons_of_mem _ hz)) with e | h1
      · subst e; have := ha'.1 _ hz; omega
      · exact h1
    · intro hz
      rcases List.mem_cons.1 ((h z).2 (List.mem_cons_of_mem _ hz)) with e | h1
      · subst e; have := hb'.1 _ hz; omega
      · exact h1

/-- Pairs that may be. -/
structure May (l : List PS) (na nb : Int) : Prop where
  a0 : 0 ≤ na
  b0 : 0 ≤ nb
  all : ∀ p ∈ l, 0 ≤ p.f0 ∧ p.f0 < na ∧ 0 ≤ p.f1 ∧ p.f1 < nb
  nd0 : (l.map (·.f0)).Nodup
  nd1 : (l.map (·.f1)).Nodup
  str : StrB l
theorem str_of {l : List PS} (hs : SortB l) (hn : (l.map (·.f1)).Nodup) : StrB l := by
  refine List.pairwise_iff_getElem.2 fun i j hi hj hij => ?_
  have h1 := List.pairwise_iff_getElem.1 hs i j hi hj hij
  have h2 := List.pairwise_iff_getElem.1 hn i j (by simpa using hi) (by simpa using hj) hij
  simp only [List.getElem_map] at h2
  omega
theorem sort_adj {l : List PS} (h : ∀ i : Nat, i + 1 < l.length → (rd_T37 l (i : Int)).f1 ≤ (rd_T37 l ((i + 1 : Nat) : Int)).f1) : SortB l := by
  refine List.pairwise_iff_getElem.2 fun i j hi hj hij => ?_
  have aux : ∀ d, (hd : i + d < l.length) → l[i].f1 ≤ (l[i + d]).f1 := by
    intro d
    induction d with
    | zero => intro _; exact Int.le_refl _
    | succ d ih =>
      intro hd
      have h1 := ih (by omega)
      have h2 := h (i + d) (by omega)
      rw [rdP_get (by omega), rdP_get (by omega)] at h2
      exact Int.le_trans h1 h2
  have := aux (j - i) (by omega)
  simp only [show i + (j - i) = j from by omega] at this
  exact this
theorem may_iff {l : List PS} {na nb : Int} : checkR l na nb = 0 ↔ May l na nb := by
  constructor
  · intro h
    unfold checkR at h
    split at h
    · cases h
    · split at h
      · cases h
      · split at h
        · cases h
        · split at h
          · rename_i h0 h1 h2 h3
            have h2' := Decidable.not_not.1 h2
            have h1' : l.all (inP na nb) = true := by simpa using h1
            refine ⟨by omega, by omega, fun p hp => ?_, h2'.1, h2'.2, str_of (sort_adj fun i hi => ?_) h2'.2⟩
            · have := List.all_eq_true.1 h1' p hp
              unfold inP at this
              exact of_decide_eq_true this
            · exact of_decide_eq_true (List.all_eq_true.1 h3 i (List.mem_range.2 (by omega)))
          · cases h
  · intro h
    refine chk0 (by have := h.a0; have := h.b0; omega) (List.all_eq_true.2 fun p hp => decide_eq_true (h.all p hp)) ⟨h.nd0, h.nd1⟩ fun i hi => ?_
    rw [rdP_get (by omega), rdP_get hi]
    have := List.pairwise_iff_getElem.1 h.str i (i + 1) (by omega) hi (Nat.lt_succ_self i)
    omega
theorem sort_turn (l : List PS) : SortB (turnR l) := sort_fold _ _ List.Pairwise.nil
theorem turn_f0 (l : List PS) : ((turnR l).map (·.f0)).Perm (l.map (·.f1)) := by
  have := (perm_turn l).map (·.f0)
  rwa [List.map_map] at this
theorem turn_f1 (l : List PS) : ((turnR l).map (·.f1)).Perm (l.map (·.f0)) := by
  have := (perm_turn l).map (·.f1)
  rwa [List.map_map] at this
theorem May.turn {l : List PS} {na nb : Int} (h : May l na nb) : May (turnR l) nb na := by
  have n1 : ((turnR l).map (·.f1)).Nodup := (turn_f1 l).symm.nodup h.nd0
  refine ⟨h.b0, h.a0, fun p hp => ?_, (turn_f0 l).symm.nodup h.nd1, n1, str_of (sort_turn l) n1⟩
  have := h.all _ (mem_turn.1 hp)
  unfold swp at this
  simp only at this
  omega
theorem May.back {l : List PS} {na nb : Int} (h : May l na nb) : turnR (turnR l) = l :=
  str_unique _ _ h.turn.turn.str h.str fun z => by rw [mem_turn, mem_turn, swp_swp]
theorem ok_turn {l : List PS} (h : okP l = true) : okP (turnR l) = true := by
  have h1 := okP_len h
  have h2 := okP_mem h
  unfold okP
  simp only [Bool.and_eq_true, decide_eq_true_eq, List.all_eq_true]
  refine ⟨by rw [turnR_len]; exact h1, fun p hp => ?_⟩
  have := h2 _ (mem_turn.1 hp)
  exact ⟨this.2, this.1⟩

/-- Those in no pair. -/
theorem restR_congr (xs ys : List Int) : ∀ n : Nat, (∀ i : Nat, i < n → xs.count (i : Int) = ys.count (i : Int)) → restR xs n = restR ys n
  | 0, _ => rfl
  | n + 1, h => by rw [restR_succ, restR_succ, restR_congr xs ys n (fun i hi => h i (by omega)), h n (by omega)]
theorem restR_len : ∀ (n : Nat) (xs : List Int), xs.Nodup → (∀ x ∈ xs, 0 ≤ x ∧ x < (n : Int)) → (restR xs n).length + xs.length = n
  | 0, xs, _, h => by
    cases xs with
    | nil => rfl
    | cons x t => have := h x List.mem_cons_self; omega
  | n + 1, xs, hn, h => by
    rw [restR_succ]
    by_cases c : xs.count (n : Int) = 0
    · rw [if_pos c]
      have c' := List.count_eq_zero.1 c
      have := restR_len n xs hn (fun x hx => by
        have h1 := h x hx
        have h2 : x ≠ (n : Int) := fun e => c' (e ▸ hx)
        omega)
      rw [List.length_append, List.length_singleton]; omega
    · rw [if_neg c, List.append_nil]
      have hm : (n : Int) ∈ xs := by rw [← List.count_pos_iff]; omega
      have h3 := restR_len n (xs.erase (n : Int)) (hn.erase _) (fun x hx => by
        have h1 := h x (List.mem_of_mem_erase hx)
        have h2 : x ≠ (n : Int) := fun e => by
          subst e
          exact (List.Nodup.mem_erase_iff hn).1 hx |>.1 rfl
        omega)
      have h4 := restR_congr xs (xs.erase (n : Int)) n (fun i hi => (List.count_erase_of_ne (by omega)).symm)
      rw [List.length_erase_of_mem hm] at h3
      have h5 := List.length_pos_of_mem hm
      rw [h4]; omega

/-- Pairs through pairs. -/
theorem mem_thrAt {x : List PS} {q z : PS} (hx : (x.map (·.f1)).Nodup) : z ∈ thrAt x q ↔ ∃ p ∈ x, p.f1 = q.f0 ∧ z = ⟨p.f0, q.f1⟩ := by
  unfold thrAt
  cases hf : x.find? (fun p => p.f1 == q.f0) with
  | none =>
    have h := List.find?_eq_none.1 hf
    simp only [List.not_mem_nil, false_iff]
    rintro ⟨p, hp, e, _⟩
    exact h p hp (by simpa using e)
  | some p =>
    have h1 := List.find?_some hf
    have h2 := List.mem_of_find?_eq_some hf
    simp only [beq_iff_eq] at h1
    simp only [List.mem_singleton]
    constructor
    · rintro rfl; exact ⟨p, h2, h1, rfl⟩
    · rintro ⟨p', hp', e, rfl⟩
      have : p' = p := by
        obtain ⟨i, hi, rfl⟩ := List.getElem_of_mem hp'
        obtain ⟨j, hj, rfl⟩ := List.getElem_of_mem h2
        have e2 : x[i].f1 = x[j].f1 := by rw [e, h1]
        rcases Nat.lt_trichotomy i j with h | h | h
        · exact absurd (by rw [List.getElem_map, List.getElem_map]; exact e2) (List.pairwise_iff_getElem.1 hx i j (by simpa using hi) (by simpa using hj) h)
        · subst h; rfl
        · exact absurd (by rw [List.getElem_map, List.getElem_map]; exact e2.symm) (List.pairwise_iff_getElem.1 hx j i (by simpa using hj) (by simpa using hi) h)
      rw [this]
theorem mem_thr {x y : List PS} {z : PS} (hx : (x.map (·.f1)).Nodup) : z ∈ thr x y ↔ ∃ q ∈ y, ∃ p ∈ x, p.f1 = q.f0 ∧ z = ⟨p.f0, q.f1⟩ := by
  unfold thr
  rw [List.mem_flatMap]
  constructor
  · rintro ⟨q, hq, h⟩; exact ⟨q, hq, (mem_thrAt hx).1 h⟩
  · rintro ⟨q, hq, h⟩; exact ⟨q, hq, (mem_thrAt hx).2 h⟩
theorem thrAt_f1 (x : List PS) (q : PS) : ((thrAt x q).map (·.f1)).Sublist [q.f1] := by
  unfold thrAt; split <;> simp
theorem thr_f1 (x : List PS) : ∀ y : List PS, ((thr x y).map (·.f1)).Sublist (y.map (·.f1))
  | [] => by simp [thr]
  | q :: y => by
    rw [thr_cons, List.map_append, List.map_cons]
    exact (thrAt_f1 x q).append (thr_f1 x y)
theorem nd_inj {x : List PS} (h : (x.map (·.f0)).Nodup) {p q : PS} (hp : p ∈ x) (hq : q ∈ x) (e : p.f0 = q.f0) : p = q := by
  obtain ⟨i, hi, rfl⟩ := List.getElem_of_mem hp
  obtain ⟨j, hj, rfl⟩ := List.getElem_of_mem hq
  rcases Nat.lt_trichotomy i j with h' | h' | h'
  · exact absurd (by rw [List.getElem_map, List.getElem_map]; exact e) (List.pairwise_iff_getElem.1 h i j (by simpa using hi) (by simpa using hj) h')
  · subst h'; rfl
  · exact absurd (by rw [List.getElem_map, List.getElem_map]; exact e.symm) (List.pairwise_iff_getElem.1 h j i (by simpa using hj) (by simpa using hi) h')
theorem thr_nd0 {x : List PS} (h0 : (x.map (·.f0)).Nodup) (h1 : (x.map (·.f1)).Nodup) : ∀ y : List PS, (y.map (·.f0)).Nodup → ((thr x y).map (·.f0)).Nodup
  | [], _ => by simp [thr]
  | q :: y, hy => by
    have hy' := List.nodup_cons.1 (by rw [List.map_cons] at hy; exact hy)
    have ih := thr_nd0 h0 h1 y hy'.2
    rw [thr_cons, List.map_append]
    refine List.nodup_append.2 ⟨?_, ih, fun a ha b hb e => ?_⟩
    · unfold thrAt; split <;> simp
    · subst e
      obtain ⟨z, hz, rfl⟩ := List.mem_map.1 ha
      obtain ⟨z', hz', e⟩ := List.mem_map.1 hb
      obtain ⟨p, hp, hpq, rfl⟩ := (mem_thrAt h1).1 hz
      obtain ⟨q', hq', p', hp', hpq', rfl⟩ := (mem_thr h1).1 hz'
      have : p' = p := nd_inj h0 hp' hp e
      subst this
      exact hy'.1 (List.mem_map.2 ⟨q', hq', by rw [← hpq', hpq]⟩)
theorem str_iff {l : List PS} : StrB l ↔ (l.map (·.f1)).Pairwise (· < ·) := by rw [List.pairwise_map]
theorem May.thr {x y : List PS} {na nb nc : Int} (hx : May x na nb) (hy : May y nb nc) : May (thr x y) na nc := by
  refine ⟨hx.a0, hy.b0, fun z hz => ?_, thr_nd0 hx.nd0 hx.nd1 y hy.nd0, hy.nd1.sublist (thr_f1 x y), str_iff.2 ((str_iff.1 hy.str).sublist (thr_f1 x y))⟩
  obtain ⟨q, hq, p, hp, e, rfl⟩ := (mem_thr hx.nd1).1 hz
  have := hx.all p hp
  have := hy.all q hq
  show 0 ≤ p.f0 ∧ p.f0 < na ∧ 0 ≤ q.f1 ∧ q.f1 < nc
  omega
theorem May.thr_turn {x y : List PS} {na nb nc : Int} (hx : May x na nb) (hy : May y nb nc) : turnR (X.thr x y) = X.thr (turnR y) (turnR x) := by
  refine str_unique _ _ (hx.thr hy).turn.str (hy.turn.thr hx.turn).str fun z => ?_
  rw [mem_turn, mem_thr hx.nd1, mem_thr hy.turn.nd1]
  constructor
  · rintro ⟨q, hq, p, hp, e, ez⟩
    refine ⟨swp p, mem_turn.2 hp, swp q, mem_turn.2 hq, e.symm, ?_⟩
    cases z; unfold swp at *; simp at ez; simp [ez]
  · rintro ⟨q, hq, p, hp, e, ez⟩
    refine ⟨swp p, mem_turn.1 hp, swp q, mem_turn.1 hq, e.symm, ?_⟩
    subst ez; rfl
end Go.Proofs.Ytphmnjapjalfgaa.X
end
section
/- No choice of rising ones is longer than what is still, and of as long ones none begins further ahead. -/
namespace Go.Proofs.Ytphmnjapjalfgaa.X
open Go.RowKit Go.Proofs.YtphmnjapjalfgaaW.PrintWords
set_option linter.unusedVariables false

theorem mxAfter_ge (a : Int) : ∀ (bs : List Int) (ns : List Nat) (j : Nat), j < bs.length → j < ns.length → a < bs.getD j 0 → ns.getD j 0 ≤ mxAfter a bs ns
  | [], _, j, h, _, _ => by simp at h
  | _ :: _, [], j, _, h, _ => by simp at h
  | b :: bs, n :: ns, 0, _, _, h => by
    unfold mxAfter
    simp only [List.getD_cons_zero] at h ⊢
    rw [if_pos h]; omega
  | b :: bs, n :: ns, j + 1, h1, h2, h => by
    have := mxAfter_ge a bs ns j (by simpa using h1) (by simpa using h2) (by simpa using h)
    unfold mxAfter
    simp only [List.getD_cons_succ]
    omega
theorem mxAfter_att (a : Int) : ∀ (bs : List Int) (ns : List Nat), bs.length = ns.length → mxAfter a bs ns = 0 ∨ ∃ j, j < bs.length ∧ a < bs.getD j 0 ∧ ns.getD j 0 = mxAfter a bs ns
  | [], _, _ => .inl (by simp [mxAfter])
  | _ :: _, [], h => by simp at h
  | b :: bs, n :: ns, h => by
    have ih := mxAfter_att a bs ns (by simpa using h)
    unfold mxAfter
    by_cases c : a < b
    · rw [if_pos c]
      rcases Nat.lt_or_ge n (mxAfter a bs ns) with h1 | h1
      · rcases ih with h0 | ⟨j, hj, hb, hn⟩
        · omega
        · exact .inr ⟨j + 1, by simpa using hj, by simpa using hb, by simp only [List.getD_cons_succ]; omega⟩
      · exact .inr ⟨0, by simp, by simpa using c, by simp only [List.getD_cons_zero]; omega⟩
    · rw [if_neg c]
      rcases ih with h0 | ⟨j, hj, hb, hn⟩
      · exact .inl (by omega)
      · exact .inr ⟨j + 1, by simpa using hj, by simpa using hb, by simp only [List.getD_cons_succ]; omega⟩
/-- How long a choice can be that begins there. -/
def Lv (l : List PS) (i : Nat) : Nat := (lng (As l)).getD i 0
def Av (l : List PS) (i : Nat) : Int := (rd_T37 l (i : Int)).f0
theorem rd_lngI (l : List PS) {i : Nat} (h : i < l.length) : rd (lngI l) (i : Int) = (Lv l i : Int) := by
  unfold rd Lv
  rw [show ((i : Int)).toNat = i from rfl]
  unfold lngI
  have hN : (lng (As l)).length = l.length := by rw [lng_len]; simp
  rw [List.getD_eq_getElem?_getD, List.getElem?_map, List.getD_eq_getElem?_getD, List.getElem?_eq_getElem (by omega)]; rfl
theorem drop_getD {α : Type} (xs : List α) (n j : Nat) (d : α) : (xs.drop n).getD j d = xs.getD (n + j) d := by
  rw [List.getD_eq_getElem?_getD, List.getD_eq_getElem?_getD, List.getElem?_drop]
theorem Lv_at (l : List PS) {i : Nat} (h : i < l.length) : Lv l i = mxAfter (Av l i) ((As l).drop (i + 1)) ((lng (As l)).drop (i + 1)) + 1 := by
  unfold Lv Av
  rw [lng_at _ _ (by simpa using h), As_get l h]
theorem Lv_up (l : List PS) {i k : Nat} (hik : i < k) (hk : k < l.length) (ha : Av l i < Av l k) : Lv l k + 1 ≤ Lv l i := by
  have hN : (lng (As l)).length = l.length := by rw [lng_len]; simp
  have hA : (As l).length = l.length := by simp
  rw [Lv_at l (i := i) (by omega)]
  have := mxAfter_ge (Av l i) ((As l).drop (i + 1)) ((lng (As l)).drop (i + 1)) (k - (i + 1)) (by rw [List.length_drop]; omega) (by rw [List.length_drop]; omega)
    (by rw [drop_getD, show i + 1 + (k - (i + 1)) = k from by omega, As_get l hk]; exact ha)
  rw [drop_getD, show i + 1 + (k - (i + 1)) = k from by omega] at this
  unfold Lv
  omega
theorem Lv_next (l : List PS) {i : Nat} (h : i < l.length) (h2 : 2 ≤ Lv l i) : ∃ k, i < k ∧ k < l.length ∧ Av l i < Av l k ∧ Lv l k + 1 = Lv l i := by
  have hN : (lng (As l)).length = l.length := by rw [lng_len]; simp
  have hA : (As l).length = l.length := by simp
  rw [Lv_at l h] at h2 ⊢
  rcases mxAfter_att (Av l i) ((As l).drop (i + 1)) ((lng (As l)).drop (i + 1)) (by rw [List.length_drop, List.length_drop]; omega) with h0 | ⟨j, hj, hb, hn⟩
  · omega
  · rw [List.length_drop] at hj
    rw [drop_getD, As_get l (by omega)] at hb
    rw [drop_getD] at hn
    exact ⟨i + 1 + j, by omega, by omega, hb, by unfold Lv; omega⟩
theorem Lv_pos (l : List PS) {i : Nat} (h : i < l.length) : 1 ≤ Lv l i := by rw [Lv_at l h]; omega

/-- The most. -/
def Mst (l : List PS) : Int := (lngI l).foldl max (rd (lngI l) 0)
theorem foldl_max_ge : ∀ (xs : List Int) (a : Int), a ≤ xs.foldl max a ∧ ∀ x ∈ xs, x ≤ xs.foldl max a
  | [], a => ⟨Int.le_refl _, fun x h => by cases h⟩
  | y :: xs, a => by
    have ih := foldl_max_ge xs (max a y)
    rw [List.foldl_cons]
    refine ⟨by omega, fun x h => ?_⟩
    rcases List.mem_cons.1 h with rfl | h
    · omega
    · exact ih.2 x h
theorem foldl_max_att : ∀ (xs : List Int) (a : Int), xs.foldl max a = a ∨ xs.foldl max a ∈ xs
  | [], a => .inl rfl
  | y :: xs, a => by
    rw [List.foldl_cons]
    rcases foldl_max_att xs (max a y) with h | h
    · rcases Int.le_total a y with h2 | h2
      · right; rw [h, show max a y = y from by omega]; exact List.mem_cons_self
      · left; rw [h]; omega
    · exact .inr (List.mem_cons_of_mem _ h)
theorem rd_memI {xs : List Int} {i : Nat} (h : i < xs.length) : rd xs (i : Int) ∈ xs := by
  unfold rd
  rw [show ((i : Int)).toNat = i from rfl, List.getD_eq_getElem?_getD, List.getElem?_eq_getElem h]
  exact List.getElem_mem h
theorem Mst_ge (l : List PS) {i : Nat} (h : i < l.length) : (Lv l i : Int) ≤ Mst l := by
  rw [← rd_lngI l h]
  exact (foldl_max_ge (lngI l) _).2 _ (rd_memI (by rw [lngI_len]; exact h))
theorem Mst_att (l : List PS) (h : 0 < l.length) : ∃ i, i < l.length ∧ (Lv l i : Int) = Mst l := by
  have hm : Mst l ∈ lngI l := by
    rcases foldl_max_att (lngI l) (rd (lngI l) 0) with e | e
    · unfold Mst; rw [e]; exact rd_memI (i := 0) (by rw [lngI_len]; exact h)
    · exact e
  obtain ⟨i, hi, e⟩ := List.getElem_of_mem hm
  rw [lngI_len] at hi
  refine ⟨i, hi, ?_⟩
  rw [← e, ← rd_lngI l hi]
  unfold rd
  rw [show ((i : Int)).toNat = i from rfl, List.getD_eq_getElem?_getD, List.getElem?_eq_getElem (by rw [lngI_len]; exact hi)]; rfl

/-- What stands behind the first j of a choice. -/
def After (l : List PS) (out : List Nat) (j i : Nat) : Prop := j = 0 ∨ (out.getD (j - 1) 0 < i ∧ Av l (out.getD (j - 1) 0) < Av l i)
structure Inv (l : List PS) (t : Nat) (want : Int) (out : List Nat) : Prop where
  sum : (out.length : Int) + want = Mst l
  wn : 0 ≤ want
  rng : ∀ j, j < out.length → out.getD j 0 < t
  lv : ∀ j, j < out.length → (Lv l (out.getD j 0) : Int) = Mst l - j
  inc : ∀ j, j < out.length → After l out j (out.getD j 0)
  min : ∀ j, j < out.length → ∀ i, i < out.getD j 0 → After l out j i → (Lv l i : Int) ≠ Mst l - j
  pend : ∀ i, i < t → After l out out.length i → (Lv l i : Int) ≠ want
theorem getD_snoc (out : List Nat) (t j : Nat) : (out ++ [t]).getD j 0 = if j < out.length then out.getD j 0 else if j = out.length then t else 0 := by
  rw [List.getD_eq_getElem?_getD]
  rcases Nat.lt_trichotomy j out.length with h | h | h
  · rw [if_pos h, List.getElem?_append_left h, List.getD_eq_getElem?_getD]
  · rw [if_neg (by omega), if_pos h, List.getElem?_append_right (by omega), h, Nat.sub_self]; rfl
  · rw [if_neg (by omega), if_neg (by omega), List.getElem?_eq_none (by simp; omega)]; rfl
theorem After_snoc {l : List PS} {out : List Nat} {t j i : Nat} (h : j ≤ out.length) : After l (out ++ [t]) j i ↔ After l out j i := by
  unfold After
  rcases Nat.eq_zero_or_pos j with e | e
  · subst e; simp
  · rw [getD_snoc, if_pos (by omega)]
theorem Inv.pick {l : List PS} {t : Nat} {want : Int} {out : List Nat} (h : Inv l t want out) (ht : t < l.length) (h1 : (Lv l t : Int) = want) (h2 : After l out out.length t) : Inv l (t + 1) (want - 1) (out ++ [t]) := by
  have hp := Lv_pos l ht
  have hs := h.sum
  refine ⟨by rw [List.length_append, List.length_singleton]; omega, by omega, fun j hj => ?_, fun j hj => ?_, fun j hj => ?_, fun j hj i hi ha => ?_, fun i hi ha => ?_⟩
  · rw [getD_snoc]
    rw [List.length_append, List.length_singleton] at hj
    by_cases c : j < out.length
    · rw [if_pos c]; have := h.rng j c; omega
    · rw [if_neg c, if_pos (by omega)]; omega
  · rw [getD_snoc]
    rw [List.length_append, List.length_singleton] at hj
    by_cases c : j < out.length
    · rw [if_pos c]; exact h.lv j c
    · rw [if_neg c, if_pos (by omega)]; omega
  · rw [List.length_append, List.length_singleton] at hj
    rw [After_snoc (by omega), getD_snoc]
    by_cases c : j < out.length
    · rw [if_pos c]; exact h.inc j c
    · rw [if_neg c, if_pos (by omega), show j = out.length from by omega]; exact h2
  · rw [List.length_append, List.length_singleton] at hj
    rw [After_snoc (by omega)] at ha
    rw [getD_snoc] at hi
    by_cases c : j < out.length
    · rw [if_pos c] at hi; exact h.min j c i hi ha
    · rw [if_neg c, if_pos (by omega)] at hi
      obtain rfl : j = out.length := by omega
      have := h.pend i hi ha
      omega
  · rw [List.length_append, List.length_singleton] at ha
    rcases ha with ha | ⟨ha, _⟩
    · omega
    · rw [Nat.add_sub_cancel, getD_snoc, if_neg (by omega), if_pos rfl] at ha
      omega
theorem Inv.pass {l : List PS} {t : Nat} {want : Int} {out : List Nat} (h : Inv l t want out) (hn : ¬ ((Lv l t : Int) = want ∧ After l out out.length t)) : Inv l (t + 1) want out := by
  refine ⟨h.sum, h.wn, fun j hj => by have := h.rng j hj; omega, h.lv, h.inc, h.min, fun i hi ha => ?_⟩
  rcases Nat.lt_or_ge i t with c | c
  · exact h.pend i c ha
  · obtain rfl : i = t := by omega
    exact fun e => hn ⟨e, ha⟩
/-- What is chosen, as natural numbers. -/
theorem inv_at (l : List PS) : ∀ t, t ≤ l.length → ∃ out : List Nat, (stAt l t).2 = out.map (fun n : Nat => (n : Int)) ∧ Inv l t (stAt l t).1 out
  | 0, _ => ⟨[], rfl, by
      refine ⟨by simp [stAt, Mst], ?_, fun j hj => by simp at hj, fun j hj => by simp at hj, fun j hj => by simp at hj, fun j hj => by simp at hj, fun i hi => by omega⟩
      show 0 ≤ Mst l
      rcases Nat.eq_zero_or_pos l.length with e | e
      · obtain rfl := List.eq_nil_of_length_eq_zero e; decide
      · have := Mst_ge l e; omega⟩
  | t + 1, ht => by
    obtain ⟨out, e, hI⟩ := inv_at l t (by omega)
    rw [stAt_succ]
    generalize stAt l t = st at *
    obtain ⟨want, o⟩ := st
    simp only at e hI
    subst e
    unfold stepS
    simp only [List.length_map]
    have hA : (out.length = 0 ∨ (rd_T37 l (rd (out.map fun n : Nat => (n : Int)) ((out.length - 1 : Nat) : Int))).f0 < (rd_T37 l (t : Int)).f0) ↔ After l out out.length t := by
      unfold After
      rcases Nat.eq_zero_or_pos out.length with z | z
      · simp [z]
      · have e1 : rd (out.map fun n : Nat => (n : Int)) ((out.length - 1 : Nat) : Int) = ((out.getD (out.length - 1) 0 : Nat) : Int) := by
          unfold rd
          rw [show (((out.length - 1 : Nat) : Int)).toNat = out.length - 1 from rfl, List.getD_eq_getElem?_getD, List.getElem?_map, List.getD_eq_getElem?_getD, List.getElem?_eq_getElem (by omega)]; rfl
        rw [e1]
        have := hI.rng (out.length - 1) (by omega)
        constructor
        · rintro (h | h)
          · omega
          · exact .inr ⟨this, h⟩
        · rintro (h | h)
          · omega
          · exact .inr h.2
    rw [rd_lngI l (by omega)]
    by_cases c : (Lv l t : Int) = want ∧ After l out out.length t
    · rw [if_pos ⟨c.1, hA.2 c.2⟩]
      exact ⟨out ++ [t], by simp, hI.pick (by omega) c.1 c.2⟩
    · rw [if_neg (fun h => c ⟨h.1, hA.1 h.2⟩)]
      exact ⟨out, rfl, hI.pass c⟩
/-- At the end all is chosen that was wanted. -/
theorem Inv.done {l : List PS} {want : Int} {out : List Nat} (h : Inv l l.length want out) (hl : 0 < l.length) : want = 0 := by
  rcases Int.lt_or_le 0 want with hw | hw
  · exfalso
    have hs := h.sum
    rcases Nat.eq_zero_or_pos out.length with z | z
    · obtain ⟨i, hi, e⟩ := Mst_att l hl
      exact h.pend i hi (.inl z) (by omega)
    · have hr := h.rng (out.length - 1) (by omega)
      have hv := h.lv (out.length - 1) (by omega)
      obtain ⟨k, hk1, hk2, hk3, hk4⟩ := Lv_next l hr (by omega)
      exact h.pend k hk2 (.inr ⟨hk1, hk3⟩) (by omega)
  · have := h.wn; omega
/-- A choice of rising ones. -/
def Rises (l : List PS) (c : List Nat) : Prop := ∀ j, j < c.length → c.getD j 0 < l.length ∧ After l c j (c.getD j 0)
theorem Rises.lv {l : List PS} {c : List Nat} (h : Rises l c) : ∀ d j, j + d + 1 = c.length → d + 1 ≤ Lv l (c.getD j 0)
  | 0, j, hj => Lv_pos l (h j (by omega)).1
  | d + 1, j, hj => by
    have ih := h.lv d (j + 1) (by omega)
    have h2 := h (j + 1) (by omega)
    rcases h2.2 with h3 | ⟨h3, h4⟩
    · omega
    · have := Lv_up l h3 h2.1 h4
      simp only [Nat.add_sub_cancel] at this
      omega
theorem still_best (l : List PS) : ∃ out : List Nat, stillR l = out.map (fun n : Nat => (n : Int)) ∧ Rises l out ∧ ∀ c, Rises l c → c.length ≤ out.length ∧
    (c.length = out.length → ∀ j, j < out.length → (∀ j', j' < j → out.getD j' 0 = c.getD j' 0) → out.getD j 0 ≤ c.getD j 0) := by
  obtain ⟨out, e, hI⟩ := inv_at l l.length (Nat.le_refl _)
  refine ⟨out, e, fun j hj => ⟨hI.rng j hj, hI.inc j hj⟩, fun c hc => ?_⟩
  rcases Nat.eq_zero_or_pos l.length with z | z
  · have hc0 : c.length = 0 := by
      rcases Nat.eq_zero_or_pos c.length with y | y
      · exact y
      · have := (hc 0 y).1; omega
    refine ⟨by omega, fun h j hj => by omega⟩
  · have hw := hI.done z
    have hs := hI.sum
    have hle : c.length ≤ out.length := by
      rcases Nat.eq_zero_or_pos c.length with y | y
      · omega
      · have h1 := hc.lv (c.length - 1) 0 (by omega)
        have h2 := Mst_ge l (hc 0 y).1
        omega
    refine ⟨hle, fun hlen j hj heq => ?_⟩
    rcases Nat.lt_or_ge (c.getD j 0) (out.getD j 0) with hlt | hge
    · exfalso
      have hcj := hc j (by omega)
      have h1 := hc.lv (out.length - j - 1) j (by omega)
      have haft : After l out j (c.getD j 0) := by
        rcases hcj.2 with h | h
        · exact .inl h
        · rcases Nat.eq_zero_or_pos j with y | y
          · exact .inl y
          · right; rw [heq (j - 1) (by omega)]; exact h
      have h3 : (Lv l (c.getD j 0) : Int) ≤ Mst l - j := by
        rcases Nat.eq_zero_or_pos j with y | y
        · subst y; have := Mst_ge l hcj.1; omega
        · rcases haft with h | ⟨h4, h5⟩
          · omega
          · have h6 := Lv_up l h4 hcj.1 h5
            have h7 := hI.lv (j - 1) (by omega)
            omega
      exact hI.min j hj _ hlt haft (by omega)
    · exact hge
end Go.Proofs.Ytphmnjapjalfgaa.X
end
section
/- The woven list, plainly. -/
namespace Go.Proofs.Ytphmnjapjalfgaa.X
open Go.RowKit Go.Proofs.YtphmnjapjalfgaaW.PrintWords
set_option linter.unusedVariables false

/-- What stands at a B. -/
def ent (l : List PS) (b : Nat) : PS := (l.find? fun p => p.f1 == (b : Int)).getD ⟨-1, (b : Int)⟩
def bas (l : List PS) (b n : Nat) : List PS := (List.range' b n).map (ent l)
def wv (sb : List Int) : List PS → List Int → List PS
  | [], G => G.map mkG
  | p :: base, G => if p.f1 ∈ sb then (G.takeWhile (fun a => !decide (a > p.f0))).map mkG ++ p :: wv sb base (G.dropWhile (fun a => !decide (a > p.f0))) else p :: wv sb base G
theorem ent_f1 (l : List PS) (b : Nat) : (ent l b).f1 = (b : Int) := by
  unfold ent
  cases h : l.find? fun p => p.f1 == (b : Int) with
  | none => rfl
  | some p => have := List.find?_some h; simpa using this
theorem ent_hit {p : PS} {L : List PS} {b : Nat} (h : p.f1 = (b : Int)) : ent (p :: L) b = p := by unfold ent; simp [h]
theorem ent_pass {p : PS} {L : List PS} {b : Nat} (h : p.f1 ≠ (b : Int)) : ent (p :: L) b = ent L b := by unfold ent; simp [h]
theorem ent_no {L : List PS} {b : Nat} (h : ∀ p ∈ L, p.f1 ≠ (b : Int)) : ent L b = ⟨-1, (b : Int)⟩ := by
  unfold ent
  rw [List.find?_eq_none.2 (fun p hp => by simpa using h p hp)]; rfl
theorem ent_mem (l : List PS) (b : Nat) : ent l b ∈ l ∨ ((ent l b).f0 = -1 ∧ ∀ p ∈ l, p.f1 ≠ (b : Int)) := by
  cases h : l.find? fun p => p.f1 == (b : Int) with
  | none =>
    refine .inr ⟨by unfold ent; rw [h]; rfl, fun p hp => ?_⟩
    have := List.find?_eq_none.1 h p hp
    simpa using this
  | some p => exact .inl (by unfold ent; rw [h]; exact List.mem_of_find?_eq_some h)
theorem rd0 {p : PS} {L : List PS} : rd_T37 (p :: L) ((0 : Nat) : Int) = p := rfl

theorem fold_wv (sb : List Int) (l : List PS) : ∀ (n b : Nat) (L : List PS) (G : List Int) (O : List PS), StrB L → (∀ p ∈ L, (b : Int) ≤ p.f1) → (∀ c, b ≤ c → ent L c = ent l c) →
    ((List.range' b n).foldl (wvStep sb) (L, G, O)).2.2 ++ ((List.range' b n).foldl (wvStep sb) (L, G, O)).2.1.map mkG = O ++ wv sb (bas l b n) G := by
  intro n
  induction n with
  | zero => intro b L G O _ _ _; simp [bas, wv]
  | succ n ih =>
    intro b L G O hs hb he
    rw [List.range'_succ, List.foldl_cons]
    have eb : bas l b (n + 1) = ent l b :: bas l (b + 1) n := by unfold bas; rw [List.range'_succ, List.map_cons]
    have e1 := he b (Nat.le_refl _)
    have f1 := ent_f1 l b
    rw [eb]
    by_cases hit : 0 < L.length ∧ (rd_T37 L ((0 : Nat) : Int)).f1 = (b : Int)
    · obtain ⟨h1, h2⟩ := hit
      rcases L with _ | ⟨p, L⟩
      · simp at h1
      · have hp : p.f1 = (b : Int) := h2
        rw [ent_hit hp] at e1
        have hs' := List.pairwise_cons.1 hs
        have hI := fun G O => ih (b + 1) L G O hs'.2 (fun q hq => by have := hs'.1 q hq; omega) (fun c hc => by rw [← he c (by omega), ent_pass (by omega)])
        by_cases hm : (b : Int) ∈ sb
        · rw [wv_hs ⟨h1, h2⟩ hm, show (p :: L).drop 1 = L from rfl, rd0, hI]
          simp only [wv]
          rw [f1, if_pos hm, ← e1]
          simp
        · rw [wv_hn ⟨h1, h2⟩ hm, show (p :: L).drop 1 = L from rfl, rd0, hI]
          simp only [wv]
          rw [f1, if_neg hm, ← e1]
          simp
    · have hlt : ∀ q ∈ L, (b : Int) < q.f1 := by
        rcases L with _ | ⟨p, L⟩
        · simp
        · have hne : p.f1 ≠ (b : Int) := fun e => hit ⟨by simp, e⟩
          have h0 := hb p (by simp)
          have hs' := List.pairwise_cons.1 hs
          intro q hq
          rcases List.mem_cons.1 hq with rfl | hq
          · omega
          · have := hs'.1 q hq; omega
      have hI := fun G O => ih (b + 1) L G O hs (fun q hq => by have := hlt q hq; omega) (fun c hc => he c (by omega))
      rw [ent_no (fun q hq => by have := hlt q hq; omega)] at e1
      by_cases hm : (b : Int) ∈ sb
      · rw [wv_ns hit hm, hI]
        simp only [wv]
        rw [f1, if_pos hm, ← e1]
        simp
      · rw [wv_no hit hm, hI]
        simp only [wv]
        rw [f1, if_neg hm, ← e1]
        simp
theorem ordR_wv {l : List PS} {na nb : Int} (h : May l na nb) : ordR l na nb = wv (stB l) (bas l 0 nb.toNat) (restR (l.map (·.f0)) na.toNat) := by
  unfold ordR wvAt
  rw [List.range_eq_range', fold_wv (stB l) l nb.toNat 0 l _ [] h.str (fun p hp => by have := (h.all p hp).2.2.1; omega) (fun c _ => rfl)]
  rfl

/-! The reference: each gone one is put in. -/
def cnd (sa : List Int) (a : Int) (q : PS) : Bool := decide (q.f0 ∈ sa) && decide (0 ≤ q.f1) && decide (a < q.f0)
def insR (sa : List Int) (a : Int) (l : List PS) : List PS := l.take (l.findIdx (cnd sa a)) ++ mkG a :: l.drop (l.findIdx (cnd sa a))
theorem insR_nil (sa : List Int) (a : Int) : insR sa a [] = [mkG a] := rfl
theorem insR_cons (sa : List Int) (a : Int) (q : PS) (qs : List PS) : insR sa a (q :: qs) = if cnd sa a q = true then mkG a :: q :: qs else q :: insR sa a qs := by
  unfold insR
  rw [List.findIdx_cons]
  cases cnd sa a q <;> simp
theorem insR_gone (sa : List Int) (a : Int) : ∀ (G : List Int) (r : List PS), insR sa a (G.map mkG ++ r) = G.map mkG ++ insR sa a r
  | [], r => rfl
  | g :: G, r => by
    rw [List.map_cons, List.cons_append, insR_cons, if_neg (by simp [cnd, mkG]), insR_gone sa a G r]; rfl
theorem tw_snoc {u : Int → Bool} {a : Int} (h : u a = false) : ∀ G : List Int, (G ++ [a]).takeWhile u = G.takeWhile u ∧ (G ++ [a]).dropWhile u = G.dropWhile u ++ [a]
  | [] => by simp [h]
  | g :: G => by
    have := tw_snoc h G
    cases hg : u g <;> simp [hg, this]
theorem tw_all {u : Int → Bool} : ∀ G : List Int, (∀ g ∈ G, u g = true) → G.takeWhile u = G ∧ G.dropWhile u = []
  | [], _ => by simp
  | g :: G, h => by
    have := tw_all G (fun x hx => h x (by simp [hx]))
    simp [h g (by simp), this]
theorem tw_mem {u : Int → Bool} {x : Int} : ∀ G : List Int, x ∈ G.takeWhile u → u x = true
  | [], h => by simp at h
  | g :: G, h => by
    rw [List.takeWhile_cons] at h
    split at h
    · rcases List.mem_cons.1 h with rfl | h
      · assumption
      · exact tw_mem G h
    · simp at h
theorem ins_wv (sb sa : List Int) (a : Int) : ∀ (base : List PS) (G : List Int), (∀ g ∈ G, g ≤ a) → (∀ p ∈ base, 0 ≤ p.f1 ∧ (p.f1 ∈ sb ↔ p.f0 ∈ sa) ∧ p.f0 ≠ a) → insR sa a (wv sb base G) = wv sb base (G ++ [a])
  | [], G, _, _ => by
    simp only [wv]
    have := insR_gone sa a G []
    rw [List.append_nil] at this
    rw [this, insR_nil]; simp
  | p :: base, G, hG, hb => by
    obtain ⟨h1, h2, h3⟩ := hb p (by simp)
    have ih := ins_wv sb sa a base
    simp only [wv]
    by_cases hm : p.f1 ∈ sb
    · rw [if_pos hm, if_pos hm]
      by_cases hlt : a < p.f0
      · have hA := tw_all (u := fun a => !decide (a > p.f0)) G (fun g hg => by have := hG g hg; simp; omega)
        have hB := tw_all (u := fun a => !decide (a > p.f0)) (G ++ [a]) (fun g hg => by
          rcases List.mem_append.1 hg with h | h
          · have := hG g h; simp; omega
          · simp only [List.mem_singleton] at h; subst h; simp; omega)
        rw [hA.1, hA.2, hB.1, hB.2, insR_gone, insR_cons, if_pos (by simp [cnd, h2.1 hm, h1, hlt])]
        simp
      · have hs := tw_snoc (u := fun a => !decide (a > p.f0)) (a := a) (by simp; omega) G
        rw [hs.1, hs.2, insR_gone, insR_cons, if_neg (by simp [cnd]; intro _ _; omega), ih _ (fun g hg => hG g ((List.dropWhile_sublist _).subset hg)) (fun q hq => hb q (by simp [hq]))]
    · rw [if_neg hm, if_neg hm, insR_cons, if_neg (by
        have : p.f0 ∉ sa := fun h => hm (h2.2 h)
        simp [cnd, this]), ih G hG (fun q hq => hb q (by simp [hq]))]
theorem wv_nil (sb : List Int) : ∀ base : List PS, wv sb base [] = base
  | [] => rfl
  | p :: base => by simp only [wv]; split <;> simp [wv_nil sb base]
theorem fold_ins (sb sa : List Int) (base : List PS) : ∀ (H G : List Int), (G ++ H).Pairwise (· ≤ ·) → (∀ a ∈ H, ∀ p ∈ base, 0 ≤ p.f1 ∧ (p.f1 ∈ sb ↔ p.f0 ∈ sa) ∧ p.f0 ≠ a) → H.foldl (fun out a => insR sa a out) (wv sb base G) = wv sb base (G ++ H)
  | [], G, _, _ => by simp
  | a :: H, G, hp, hb => by
    rw [List.foldl_cons, ins_wv sb sa a base G (fun g hg => (List.pairwise_append.1 hp).2.2 g hg a (by simp)) (hb a (by simp)), fold_ins sb sa base H (G ++ [a]) (by simpa using hp) (fun x hx => hb x (by simp [hx]))]
    simp

/-! Members. -/
theorem mem_restR {xs : List Int} {n : Nat} {x : Int} : x ∈ restR xs n ↔ 0 ≤ x ∧ x < (n : Int) ∧ x ∉ xs := by
  unfold restR
  rw [List.mem_flatMap]
  constructor
  · rintro ⟨i, hi, hx⟩
    have hi' := List.mem_range.1 hi
    split at hx
    · rename_i h0
      simp only [List.mem_singleton] at hx
      subst hx
      exact ⟨by omega, by omega, List.count_eq_zero.1 h0⟩
    · simp at hx
  · rintro ⟨h0, h1, h2⟩
    refine ⟨x.toNat, List.mem_range.2 (by omega), ?_⟩
    have e : ((x.toNat : Nat) : Int) = x := by omega
    rw [e, if_pos (List.count_eq_zero.2 h2)]; simp
theorem restR_lt (xs : List Int) : ∀ n, (restR xs n).Pairwise (· < ·)
  | 0 => by simp [restR]
  | n + 1 => by
    rw [restR_succ]
    refine List.pairwise_append.2 ⟨restR_lt xs n, by split <;> simp, fun a ha b hb => ?_⟩
    have := (mem_restR.1 ha).2.1
    split at hb
    · simp only [List.mem_singleton] at hb; subst hb; exact this
    · simp at hb
def stA (l : List PS) : List Int := (stillR l).map fun i => (rd_T37 l i).f0
theorem st_pair {l : List PS} {x : Int} (hx : x ∈ stillR l) : rd_T37 l x ∈ l := by
  have h := stAt_mem l l.length x hx
  have e : ((x.toNat : Nat) : Int) = x := by omega
  rw [← e]
  exact rdP_mem (by omega)
theorem nd_inj1 {x : List PS} (h : (x.map (·.f1)).Nodup) {p q : PS} (hp : p ∈ x) (hq : q ∈ x) (e : p.f1 = q.f1) : p = q := by
  obtain ⟨i, hi, rfl⟩ := List.getElem_of_mem hp
  obtain ⟨j, hj, rfl⟩ := List.getElem_of_mem hq
  have h2 := List.pairwise_iff_getElem.1 h
  rcases Nat.lt_trichotomy i j with h3 | rfl | h3
  · exact absurd (by rw [List.getElem_map, List.getElem_map]; exact e) (h2 i j (by simpa using hi) (by simpa using hj) h3)
  · rfl
  · exact absurd (by rw [List.getElem_map, List.getElem_map]; exact e.symm) (h2 j i (by simpa using hj) (by simpa using hi) h3)
theorem st_both {l : List PS} {na nb : Int} (h : May l na nb) {p : PS} (hp : p ∈ l) : p.f1 ∈ stB l ↔ p.f0 ∈ stA l := by
  unfold stB stA
  simp only [List.mem_map]
  constructor
  · rintro ⟨x, hx, e⟩
    exact ⟨x, hx, by rw [nd_inj1 h.nd1 (st_pair hx) hp e]⟩
  · rintro ⟨x, hx, e⟩
    exact ⟨x, hx, by rw [nd_inj h.nd0 (st_pair hx) hp e]⟩
theorem mem_bas {l : List PS} {b n : Nat} {p : PS} (h : p ∈ bas l b n) : ∃ c : Nat, p = ent l c ∧ b ≤ c ∧ c < b + n := by
  obtain ⟨c, hc, rfl⟩ := List.mem_map.1 h
  have := List.mem_range'_1.1 hc
  exact ⟨c, rfl, this.1, this.2⟩
theorem bas_ok {l : List PS} {na nb : Int} (h : May l na nb) {a : Int} (ha : a ∈ restR (l.map (·.f0)) na.toNat) {n : Nat} : ∀ p ∈ bas l 0 n, 0 ≤ p.f1 ∧ (p.f1 ∈ stB l ↔ p.f0 ∈ stA l) ∧ p.f0 ≠ a := by
  intro p hp
  obtain ⟨c, rfl, _, _⟩ := mem_bas hp
  obtain ⟨a0, _, a2⟩ := mem_restR.1 ha
  have e1 := ent_f1 l c
  refine ⟨by omega, ?_, ?_⟩
  · rcases ent_mem l c with hm | ⟨hm, hn⟩
    · exact st_both h hm
    · constructor
      · intro hs
        unfold stB at hs
        obtain ⟨x, hx, e⟩ := List.mem_map.1 hs
        exact absurd (e.trans e1) (hn _ (st_pair hx))
      · intro hs
        unfold stA at hs
        obtain ⟨x, hx, e⟩ := List.mem_map.1 hs
        have := (h.all _ (st_pair hx)).1
        omega
  · intro e
    rcases ent_mem l c with hm | ⟨hm, hn⟩
    · exact a2 (List.mem_map.2 ⟨_, hm, e⟩)
    · omega
theorem ref_ordR {l : List PS} {na nb : Int} (h : May l na nb) : (restR (l.map (·.f0)) na.toNat).foldl (fun out a => insR (stA l) a out) (bas l 0 nb.toNat) = ordR l na nb := by
  have := fold_ins (stB l) (stA l) (bas l 0 nb.toNat) (restR (l.map (·.f0)) na.toNat) [] (by simpa using (restR_lt _ _).imp Int.le_of_lt) (fun a ha => bas_ok h ha)
  rw [wv_nil, List.nil_append] at this
  rw [this, ordR_wv h]

/-! What is split is what was woven. -/
theorem wv_f1 (sb : List Int) (u : PS → Bool) (hu : ∀ g, u (mkG g) = false) : ∀ (base : List PS) (G : List Int), (wv sb base G).filter u = base.filter u
  | [], G => by
    simp only [wv]
    rw [List.filter_eq_nil_iff.2 (fun p hp => by obtain ⟨g, _, rfl⟩ := List.mem_map.1 hp; simp [hu])]; rfl
  | p :: base, G => by
    have ih := wv_f1 sb u hu base
    simp only [wv]
    split
    · rw [List.filter_append, List.filter_eq_nil_iff.2 (fun p hp => by obtain ⟨g, _, rfl⟩ := List.mem_map.1 hp; simp [hu]), List.nil_append, List.filter_cons, List.filter_cons, ih]
    · rw [List.filter_cons, List.filter_cons, ih]
theorem wv_gone (sb : List Int) : ∀ (base : List PS) (G : List Int), (∀ p ∈ base, 0 ≤ p.f1) → (∀ g ∈ G, 0 ≤ g) → spA (wv sb base G) = G
  | [], G, _, hg => by
    simp only [wv]
    unfold spA
    rw [List.filter_eq_self.2 (fun p hp => by obtain ⟨g, h1, rfl⟩ := List.mem_map.1 hp; have := hg g h1; simp [mkG]; omega), List.map_map]
    simp [Function.comp_def, mkG]
  | p :: base, G, hb, hg => by
    have ih := fun G => wv_gone sb base G (fun q hq => hb q (by simp [hq]))
    have h1 := hb p (by simp)
    have hc : ∀ r : List PS, spA (p :: r) = spA r := by
      intro r; unfold spA; rw [List.filter_cons, if_neg (by simp; intro _; omega)]
    simp only [wv]
    split
    · have ha : ∀ (X : List Int) (r : List PS), (∀ g ∈ X, 0 ≤ g) → spA (X.map mkG ++ r) = X ++ spA r := by
        intro X r hX
        unfold spA
        rw [List.filter_append, List.map_append, List.filter_eq_self.2 (fun p hp => by obtain ⟨g, h1, rfl⟩ := List.mem_map.1 hp; have := hX g h1; simp [mkG]; omega), List.map_map]
        simp [Function.comp_def, mkG]
      rw [ha _ _ (fun g h => hg g ((List.takeWhile_sublist _).subset h)), hc, ih _ (fun g h => hg g ((List.dropWhile_sublist _).subset h))]
      exact List.takeWhile_append_dropWhile
    · rw [hc, ih G hg]
theorem wv_len2 (sb : List Int) : ∀ (base : List PS) (G : List Int), (wv sb base G).length = base.length + G.length
  | [], G => by simp [wv]
  | p :: base, G => by
    have ih := wv_len2 sb base
    simp only [wv]
    split
    · have h := congrArg List.length (List.takeWhile_append_dropWhile (p := fun a => !decide (a > p.f0)) (l := G))
      rw [List.length_append] at h
      rw [List.length_append, List.length_map, List.length_cons, List.length_cons, ih]
      omega
    · rw [List.length_cons, List.length_cons, ih]; omega
theorem bas_len (l : List PS) (b n : Nat) : (bas l b n).length = n := by unfold bas; simp
/-- The row of the Bs holds the pairs. -/
theorem bas_pairs : ∀ (n b : Nat) (L l : List PS), StrB L → (∀ p ∈ L, (b : Int) ≤ p.f1 ∧ p.f1 < ((b + n : Nat) : Int) ∧ 0 ≤ p.f0) → (∀ c, b ≤ c → ent L c = ent l c) → spP (bas l b n) = L
  | 0, b, L, l, hs, hb, he => by
    rcases L with _ | ⟨p, L⟩
    · rfl
    · have := hb p (by simp); omega
  | n + 1, b, L, l, hs, hb, he => by
    have e1 := he b (Nat.le_refl _)
    have eb : bas l b (n + 1) = ent l b :: bas l (b + 1) n := by unfold bas; rw [List.range'_succ, List.map_cons]
    rw [eb]
    rcases L with _ | ⟨p, L⟩
    · have ih := bas_pairs n (b + 1) [] l List.Pairwise.nil (by simp) (fun c hc => he c (by omega))
      rw [ent_no (by simp)] at e1
      unfold spP at ih ⊢
      rw [← e1, List.filter_cons, if_neg (by simp), ih]
    · have hs' := List.pairwise_cons.1 hs
      have h0 := hb p (by simp)
      by_cases hp : p.f1 = (b : Int)
      · have ih := bas_pairs n (b + 1) L l hs'.2 (fun q hq => by have := hs'.1 q hq; have := hb q (by simp [hq]); omega) (fun c hc => by rw [← he c (by omega), ent_pass (by omega)])
        rw [ent_hit hp] at e1
        unfold spP at ih ⊢
        rw [← e1, List.filter_cons, if_pos (by simp; omega), ih]
      · have hlt : ∀ q ∈ p :: L, (b : Int) < q.f1 := by
          intro q hq
          rcases List.mem_cons.1 hq with rfl | hq
          · omega
          · have := hs'.1 q hq; omega
        have ih := bas_pairs n (b + 1) (p :: L) l hs (fun q hq => by have := hlt q hq; have := hb q hq; omega) (fun c hc => he c (by omega))
        rw [ent_no (fun q hq => by have := hlt q hq; omega)] at e1
        unfold spP at ih ⊢
        rw [← e1, List.filter_cons, if_neg (by simp), ih]
theorem bas_new {l : List PS} (h0 : ∀ p ∈ l, 0 ≤ p.f0) : ∀ n : Nat, spB (bas l 0 n) = restR (l.map (·.f1)) n
  | 0 => rfl
  | n + 1 => by
    have ih := bas_new h0 n
    have eb : bas l 0 (n + 1) = bas l 0 n ++ [ent l n] := by unfold bas; rw [← List.range_eq_range', ← List.range_eq_range', List.range_succ, List.map_append]; rfl
    rw [eb, spB_snoc, restR_succ, ih, ent_f1]
    rcases ent_mem l n with hm | ⟨hm, hn⟩
    · have h2 := h0 _ hm
      have h3 : (n : Int) ∈ l.map (·.f1) := List.mem_map.2 ⟨_, hm, ent_f1 l n⟩
      rw [if_neg (by omega), if_neg (by rw [List.count_eq_zero]; exact fun h => h h3), List.append_nil]
    · rw [if_pos ⟨by omega, by omega⟩, if_pos (by
        rw [List.count_eq_zero]
        intro h3
        obtain ⟨p, hp, e⟩ := List.mem_map.1 h3
        exact hn p hp e)]
theorem split_ord {l : List PS} {na nb : Int} (h : May l na nb) : spP (ordR l na nb) = l ∧ spA (ordR l na nb) = restR (l.map (·.f0)) na.toNat ∧ spB (ordR l na nb) = restR (l.map (·.f1)) nb.toNat ∧ (ordR l na nb).length + l.length = na.toNat + nb.toNat := by
  have hl := restR_len na.toNat (l.map (·.f0)) h.nd0 (fun x hx => by
    obtain ⟨p, hp, rfl⟩ := List.mem_map.1 hx
    have := h.all p hp; omega)
  rw [List.length_map] at hl
  rw [ordR_wv h]
  have hb : ∀ p ∈ bas l 0 nb.toNat, 0 ≤ p.f1 := fun p hp => by
    obtain ⟨c, rfl, _, _⟩ := mem_bas hp
    rw [ent_f1]; omega
  refine ⟨?_, wv_gone _ _ _ hb (fun g hg => (mem_restR.1 hg).1), ?_, by rw [wv_len2, bas_len]; omega⟩
  · have h1 := wv_f1 (stB l) (fun p => decide (0 ≤ p.f0 ∧ 0 ≤ p.f1)) (fun g => by simp [mkG]) (bas l 0 nb.toNat) (restR (l.map (·.f0)) na.toNat)
    unfold spP
    rw [h1]
    exact bas_pairs nb.toNat 0 l l h.str (fun p hp => by have := h.all p hp; omega) (fun c _ => rfl)
  · have h1 := wv_f1 (stB l) (fun p => decide (p.f0 < 0 ∧ 0 ≤ p.f1)) (fun g => by simp [mkG]) (bas l 0 nb.toNat) (restR (l.map (·.f0)) na.toNat)
    unfold spB
    rw [h1]
    exact bas_new (fun p hp => (h.all p hp).1) nb.toNat

/-! The order is kept. -/
def chk (sb : List Int) : Int → List PS → Bool
  | _, [] => true
  | a, p :: r => if p.f1 < 0 ∨ p.f1 ∈ sb then decide (a < p.f0) && chk sb p.f0 r else chk sb a r
theorem chk_gone (sb : List Int) : ∀ (G : List Int) (a c : Int) (r : List PS), (a :: G).Pairwise (· < ·) → (∀ g ∈ G, g ≤ c) → a ≤ c → (∀ x, x ≤ c → (x = a ∨ x ∈ G) → chk sb x r = true) → chk sb a (G.map mkG ++ r) = true
  | [], a, c, r, _, _, hac, h => h a hac (.inl rfl)
  | g :: G, a, c, r, hp, hc, hac, h => by
    have hp' := List.pairwise_cons.1 hp
    have h1 := hp'.1 g (by simp)
    rw [List.map_cons, List.cons_append]
    simp only [chk]
    rw [if_pos (.inl (by simp [mkG]))]
    have := chk_gone sb G g c r hp'.2 (fun x hx => hc x (by simp [hx])) (hc g (by simp)) (fun x hx hm => h x hx (.inr (by rcases hm with rfl | hm <;> simp_all)))
    simp only [mkG] at this ⊢
    rw [this]; simp [h1]
theorem chk_wv (sb : List Int) : ∀ (base : List PS) (G : List Int) (a : Int), (∀ p ∈ base, 0 ≤ p.f1 ∧ p.f0 ∉ G) → (a :: (base.filter (fun p => decide (p.f1 ∈ sb))).map (·.f0)).Pairwise (· < ·) → (a :: G).Pairwise (· < ·) → chk sb a (wv sb base G) = true
  | [], G, a, _, _, hG => by
    simp only [wv]
    have := chk_gone sb G a ((a :: G).foldl max a) [] hG (fun g hg => (foldl_max_ge (a :: G) a).2 g (by simp [hg])) ((foldl_max_ge (a :: G) a).1) (fun _ _ _ => rfl)
    simpa using this
  | p :: base, G, a, hb, hS, hG => by
    have ih := chk_wv sb base
    obtain ⟨h1, h2⟩ := hb p (by simp)
    have hb' : ∀ X : List Int, X.Sublist G → ∀ q ∈ base, 0 ≤ q.f1 ∧ q.f0 ∉ X := fun X hX q hq => ⟨(hb q (by simp [hq])).1, fun h => (hb q (by simp [hq])).2 (hX.subset h)⟩
    simp only [wv]
    by_cases hm : p.f1 ∈ sb
    · rw [if_pos hm]
      rw [List.filter_cons, if_pos (by simpa using hm), List.map_cons] at hS
      have hS' := List.pairwise_cons.1 hS
      have hpa := hS'.1 p.f0 (by simp)
      have htw : ∀ g ∈ G.takeWhile (fun a => !decide (a > p.f0)), g < p.f0 := by
        intro g hg
        have h3 := tw_mem _ hg
        have h4 : g ≠ p.f0 := fun e => h2 (e ▸ (List.takeWhile_sublist _).subset hg)
        simp at h3
        omega
      refine chk_gone sb _ a (p.f0 - 1) _ ((hG.sublist ((List.takeWhile_sublist _).cons_cons a))) (fun g hg => by have := htw g hg; omega) (by omega) (fun x hx _ => ?_)
      simp only [chk]
      rw [if_pos (.inr hm), ih _ p.f0 (hb' _ (List.dropWhile_sublist _)) hS'.2 ?_]
      · simp; omega
      · refine List.pairwise_cons.2 ⟨fun g hg => ?_, (List.pairwise_cons.1 hG).2.sublist (List.dropWhile_sublist _)⟩
        rcases hd : G.dropWhile (fun a => !decide (a > p.f0)) with _ | ⟨y, ys⟩
        · rw [hd] at hg; simp at hg
        · have hy : ¬ (!decide (y > p.f0)) = true := by
            have := List.head?_dropWhile_not (fun a => !decide (a > p.f0)) G
            rw [hd] at this; simpa using this
          have hpw : (y :: ys).Pairwise (· < ·) := by rw [← hd]; exact (List.pairwise_cons.1 hG).2.sublist (List.dropWhile_sublist _)
          rw [hd] at hg
          simp at hy
          rcases List.mem_cons.1 hg with rfl | hg
          · omega
          · have := (List.pairwise_cons.1 hpw).1 g hg; omega
    · rw [if_neg hm]
      simp only [chk]
      rw [if_neg (by rintro (h | h); omega; exact hm h)]
      rw [List.filter_cons, if_neg (by simpa using hm)] at hS
      exact ih G a (hb' G (List.Sublist.refl _)) hS hG
end Go.Proofs.Ytphmnjapjalfgaa.X
end
section
/- What the reference of layer 7 computes. -/
namespace Go.Proofs.Ytphmnjapjalfgaa.X
open Go.RowKit Go.Proofs.YtphmnjapjalfgaaW.PrintWords
set_option linter.unusedVariables false

theorem refIn_l0 (xs : List Int) (x : Int) (hl : xs.length ≤ 100000) : ∀ (d k i : Nat), i + d = xs.length → d < k → tartanref06_In.l0 k xs x (i : Nat) = some (decide (x ∈ xs.drop i)) := by
  intro d
  induction d with
  | zero =>
    intro k i hi hk
    obtain ⟨k, rfl⟩ : ∃ m, k = m + 1 := ⟨k - 1, by omega⟩
    simp only [tartanref06_In.l0]
    rw [if_neg (by omega), List.drop_eq_nil_of_le (by omega)]; simp
  | succ d ih =>
    intro k i hi hk
    obtain ⟨k, rfl⟩ : ∃ m, k = m + 1 := ⟨k - 1, by omega⟩
    have ih' := ih k (i + 1) (by omega) (by omega)
    simp only [tartanref06_In.l0]
    rw [if_pos (by omega), if_pos (by omega), wrap_up _ (by omega), ih', dropI (l := xs) (t := i) (by omega)]
    by_cases e : rd xs (i : Int) = x
    · rw [if_pos e]; simp [e]
    · rw [if_neg e]; simp [Ne.symm e]
theorem refIn_some {xs : List Int} {x : Int} (hl : xs.length ≤ 100000) {k : Nat} (hk : xs.length < k) : tartanref06_In.f k xs x = some (decide (x ∈ xs)) := by
  unfold tartanref06_In.f
  exact refIn_l0 xs x hl xs.length k 0 (by omega) hk

/-- The last one of a B. -/
def lastm : List PS → Int → PS → PS
  | [], _, c => c
  | p :: ps, b, c => lastm ps b (if p.f1 = b then p else c)
theorem lastm_no : ∀ (ps : List PS) (b : Int) (c : PS), (∀ q ∈ ps, q.f1 ≠ b) → lastm ps b c = c
  | [], _, _, _ => rfl
  | p :: ps, b, c, h => by
    simp only [lastm]
    rw [if_neg (h p (by simp)), lastm_no ps b c (fun q hq => h q (by simp [hq]))]
theorem lastm_ent : ∀ (l : List PS) (b : Nat), StrB l → lastm l (b : Int) ⟨-1, (b : Int)⟩ = ent l b
  | [], _, _ => rfl
  | p :: ps, b, hs => by
    have hs' := List.pairwise_cons.1 hs
    simp only [lastm]
    by_cases h : p.f1 = (b : Int)
    · rw [if_pos h, ent_hit h, lastm_no ps _ _ (fun q hq => by have := hs'.1 q hq; omega)]
    · rw [if_neg h, ent_pass h, lastm_ent ps b hs'.2]
theorem refByB_l1 (l : List PS) (nb : Int) (hl : l.length ≤ 100000) (acc : List PS) (hacc : acc.length ≤ 100000) (b : Nat) (F : Nat) (r : Option (List PS)) :
    ∀ (d k i : Nat) (c : PS), i + d = l.length → d + F + 1 ≤ k → (∀ k', F ≤ k' → tartanref07_byB.l0 k' l nb (acc ++ [lastm (l.drop i) (b : Int) c]) (wrap64 ((b : Int) + 1)) = r) → tartanref07_byB.l1 k l nb acc (b : Nat) (i : Nat) c.f0 c.f1 = r := by
  intro d
  induction d with
  | zero =>
    intro k i c hi hk H
    obtain ⟨k, rfl⟩ : ∃ m, k = m + 1 := ⟨k - 1, by omega⟩
    simp only [tartanref07_byB.l1]
    rw [if_neg (by omega), if_pos (by omega)]
    have := H k (by omega)
    rw [List.drop_eq_nil_of_le (by omega)] at this
    exact this
  | succ d ih =>
    intro k i c hi hk H
    obtain ⟨k, rfl⟩ : ∃ m, k = m + 1 := ⟨k - 1, by omega⟩
    rw [dropP (l := l) (t := i) (by omega)] at H
    simp only [lastm] at H
    simp only [tartanref07_byB.l1]
    rw [if_pos (by omega), if_pos (by omega), wrap_up _ (by omega)]
    by_cases e : (rd_T37 l (i : Int)).f1 = (b : Int)
    · rw [if_pos e]
      rw [if_pos e] at H
      exact ih k (i + 1) _ (by omega) (by omega) H
    · rw [if_neg e]
      rw [if_neg e] at H
      exact ih k (i + 1) c (by omega) (by omega) H
theorem refByB_l0 (l : List PS) (nb : Int) (hl : l.length ≤ 100000) (hn : nb ≤ 100000) (hs : StrB l) : ∀ (d k b : Nat), b + d = nb.toNat → d * (l.length + 3) < k → tartanref07_byB.l0 k l nb (bas l 0 b) (b : Nat) = some (bas l 0 nb.toNat) := by
  intro d
  induction d with
  | zero =>
    intro k b hb hk
    obtain ⟨k, rfl⟩ : ∃ m, k = m + 1 := ⟨k - 1, by omega⟩
    simp only [tartanref07_byB.l0]
    rw [if_neg (by omega), show b = nb.toNat from by omega]
  | succ d ih =>
    intro k b hb hk
    rw [Nat.succ_mul] at hk
    obtain ⟨k, rfl⟩ : ∃ m, k = m + 1 := ⟨k - 1, by omega⟩
    have eb : bas l 0 (b + 1) = bas l 0 b ++ [ent l b] := by unfold bas; rw [← List.range_eq_range', ← List.range_eq_range', List.range_succ, List.map_append]; rfl
    simp only [tartanref07_byB.l0]
    rw [if_pos (by omega)]
    refine refByB_l1 l nb hl _ (by rw [bas_len]; omega) b (d * (l.length + 3) + 1) _ l.length k 0 ⟨-1, (b : Int)⟩ (by omega) (by omega) (fun k' hk' => ?_)
    rw [List.drop_zero, lastm_ent l b hs, wrap_up _ (by omega), ← eb]
    exact ih k' (b + 1) (by omega) (by omega)
theorem refByB_some {l : List PS} {nb : Int} (hl : l.length ≤ 100000) (hn : nb ≤ 100000) (hs : StrB l) {k : Nat} (hk : nb.toNat * (l.length + 3) < k) : tartanref07_byB.f k l nb = some (bas l 0 nb.toNat) := by
  unfold tartanref07_byB.f
  exact refByB_l0 l nb hl hn hs nb.toNat k 0 (by omega) hk
theorem refStill7_l0 (l : List PS) (hl : l.length ≤ 100000) : ∀ (d k i : Nat), i + d = (stillR l).length → d < k → tartanref07_still.l0 k l ((stA l).take i) (stillR l) (i : Nat) = some (stA l) := by
  have hsl := still_len l
  have ha : (stA l).length = (stillR l).length := by unfold stA; simp
  intro d
  induction d with
  | zero =>
    intro k i hi hk
    obtain ⟨k, rfl⟩ : ∃ m, k = m + 1 := ⟨k - 1, by omega⟩
    simp only [tartanref07_still.l0]
    rw [if_neg (by omega), List.take_of_length_le (by omega)]
  | succ d ih =>
    intro k i hi hk
    obtain ⟨k, rfl⟩ : ∃ m, k = m + 1 := ⟨k - 1, by omega⟩
    have ih' := ih k (i + 1) (by omega) (by omega)
    have hlt : i < (stillR l).length := by omega
    have hm := stAt_mem l l.length (rd (stillR l) (i : Int)) (rd_memI hlt)
    have et : (stA l).take (i + 1) = (stA l).take i ++ [(rd_T37 l (rd (stillR l) (i : Int))).f0] := by
      unfold stA
      rw [← List.map_take, ← List.map_take, take_rdI hlt, List.map_append]; rfl
    simp only [tartanref07_still.l0]
    rw [if_pos (by omega), if_pos (by omega), if_pos (by omega), if_pos (by omega), if_pos (by rw [List.length_take]; omega), wrap_up _ (by omega), ← et, ih']
theorem refStill7_some {l : List PS} (hl : l.length ≤ 100000) {k : Nat} (hk : l.length * (l.length + 3) + 2 * l.length + 2 < k) : tartanref07_still.f k l = some (stA l) := by
  have hsl := still_len l
  unfold tartanref07_still.f
  rw [refStill_some hl hk, Option.bind_some]
  exact refStill7_l0 l hl (stillR l).length k 0 (by omega) (by omega)
theorem refPlace_l0 (l : List PS) (sa : List Int) (a : Int) (hl : l.length ≤ 100000) (hs : sa.length ≤ 100000) : ∀ (d k i : Nat), i + d = l.length → d + sa.length + 1 < k → tartanref07_place.l0 k l sa a (i : Nat) = some (((i + (l.drop i).findIdx (cnd sa a) : Nat) : Int)) := by
  intro d
  induction d with
  | zero =>
    intro k i hi hk
    obtain ⟨k, rfl⟩ : ∃ m, k = m + 1 := ⟨k - 1, by omega⟩
    simp only [tartanref07_place.l0]
    rw [if_neg (by omega), List.drop_eq_nil_of_le (by omega)]
    simp; omega
  | succ d ih =>
    intro k i hi hk
    obtain ⟨k, rfl⟩ : ∃ m, k = m + 1 := ⟨k - 1, by omega⟩
    have ih' := ih k (i + 1) (by omega) (by omega)
    simp only [tartanref07_place.l0]
    rw [if_pos (by omega), if_pos (by omega), refIn_some hs (by omega), Option.bind_some, wrap_up _ (by omega), ih', dropP (l := l) (t := i) (by omega), List.findIdx_cons]
    unfold cnd
    generalize (List.drop (i + 1) l).findIdx _ = m
    by_cases c1 : (rd_T37 l (i : Int)).f0 ∈ sa
    · rw [if_pos (by simpa using c1)]
      by_cases c2 : 0 ≤ (rd_T37 l (i : Int)).f1
      · rw [if_pos c2]
        by_cases c3 : a < (rd_T37 l (i : Int)).f0
        · rw [if_pos c3]; simp [c1, c2, c3]
        · rw [if_neg c3]; simp [c3]; omega
      · rw [if_neg c2]; simp [c2]; omega
    · rw [if_neg (by simpa using c1)]; simp [c1]; omega
theorem refPlace_some {l : List PS} {sa : List Int} {a : Int} (hl : l.length ≤ 100000) (hs : sa.length ≤ 100000) {k : Nat} (hk : l.length + sa.length + 1 < k) : tartanref07_place.f k l sa a = some ((l.findIdx (cnd sa a) : Nat) : Int) := by
  unfold tartanref07_place.f
  have := refPlace_l0 l sa a hl hs l.length k 0 (by omega) hk
  simpa using this
theorem refOrder_l0 (sa : List Int) (gone : List Int) (hs : sa.length ≤ 100000) (hg : gone.length ≤ 10000) : ∀ (d k i : Nat) (out : List PS), i + d = gone.length → out.length ≤ 10000 + i → 2 * d + 20000 + sa.length + 10 < k → tartanref07_Order.l0 k out sa gone (i : Nat) = some ((gone.drop i).foldl (fun out a => insR sa a out) out, 0) := by
  intro d
  induction d with
  | zero =>
    intro k i out hi ho hk
    obtain ⟨k, rfl⟩ : ∃ m, k = m + 1 := ⟨k - 1, by omega⟩
    simp only [tartanref07_Order.l0]
    rw [if_neg (by omega), List.drop_eq_nil_of_le (by omega)]; rfl
  | succ d ih =>
    intro k i out hi ho hk
    obtain ⟨k, rfl⟩ : ∃ m, k = m + 1 := ⟨k - 1, by omega⟩
    have hle : out.findIdx (cnd sa (rd gone (i : Int))) ≤ out.length := List.findIdx_le_length
    have hlen : (insR sa (rd gone (i : Int)) out).length = out.length + 1 := by
      unfold insR
      rw [List.length_append, List.length_take, List.length_cons, List.length_drop]; omega
    have ih' := ih k (i + 1) (insR sa (rd gone (i : Int)) out) (by omega) (by omega) (by omega)
    simp only [tartanref07_Order.l0]
    rw [if_pos (by omega), if_pos (by omega), refPlace_some (by omega) hs (by omega), Option.bind_some, Option.bind_some, if_pos (by omega), if_pos (by omega), Option.bind_some]
    rw [show ((out.findIdx (cnd sa (rd gone (i : Int))) : Nat) : Int).toNat = out.findIdx (cnd sa (rd gone (i : Int))) from rfl]
    rw [if_pos (by rw [List.length_take]; simp; omega), Option.bind_some, if_pos (by rw [List.nil_append, List.length_take]; omega), Option.bind_some, Option.bind_some,
      if_pos (by rw [List.length_append, List.nil_append, List.length_take, List.length_drop, List.length_singleton]; omega), wrap_up _ (by omega), dropI (l := gone) (t := i) (by omega), List.foldl_cons, ← ih']
    congr 1
    unfold insR mkG
    simp
theorem refOrder_some {l : List PS} {na nb : Int} (hl : l.length ≤ 60) (hna : na ≤ 60) (hnb : nb ≤ 60) {k : Nat} (hk : 100000 ≤ k) : tartanref07_Order.f k l na nb = some (if checkR l na nb = 0 then ordR l na nb else [], checkR l na nb) := by
  have hsl := still_len l
  have hb0 : l.length * (l.length + 3) ≤ 60 * 63 := Nat.mul_le_mul (by omega) (by omega)
  unfold tartanref07_Order.f
  rw [refCheck_some (by omega) (by omega), Option.bind_some]
  by_cases hc : checkR l na nb = 0
  · have hm := may_iff.1 hc
    have hb1 : nb.toNat * (l.length + 3) ≤ 60 * 63 := Nat.mul_le_mul (by omega) (by omega)
    have hb2 : na.toNat * (l.length + 3) ≤ 60 * 63 := Nat.mul_le_mul (by omega) (by omega)
    have hsa : (stA l).length = (stillR l).length := by unfold stA; simp
    have hr := restR_le (l.map (·.f0)) na.toNat
    rw [if_pos hc, if_pos hc, refByB_some (by omega) (by omega) hm.str (by omega), Option.bind_some, refStill7_some (by omega) (by omega), Option.bind_some, refRestA_some (by omega) (by omega) (by omega), Option.bind_some, hc]
    have := refOrder_l0 (stA l) (restR (l.map (·.f0)) na.toNat) (by omega) (by omega) (restR (l.map (·.f0)) na.toNat).length k 0 (bas l 0 nb.toNat) (by omega) (by rw [bas_len]; omega) (by omega)
    rw [List.drop_zero, ref_ordR hm] at this
    exact this
  · rw [if_neg hc, if_neg hc]
end Go.Proofs.Ytphmnjapjalfgaa.X
end
section
/- The guards of the laws of layer 7, and what they look at. -/
namespace Go.Proofs.Ytphmnjapjalfgaa.X
open Go.RowKit Go.Proofs.YtphmnjapjalfgaaW.PrintWords
set_option linter.unusedVariables false

set_option maxRecDepth 100000 in
theorem works07 : ∀ k, tartanlaw07_works.f (k + 30) = some true := by intro k; kernel_rfl
theorem order_some {l : List PS} {na nb : Int} (h : okP l = true) (ha : na ≤ 100000) (hb : nb ≤ 100000) : weave_Order.f l na nb = some (if checkR l na nb = 0 then ordR l na nb else [], checkR l na nb) := by
  unfold weave_Order.f; rw [if_pos ⟨h, ha, hb⟩]
theorem split_some {l : List PS} (h : l.length ≤ 100000) : weave_Split.f l = some (spP l, spA l, spB l) := by unfold weave_Split.f; rw [if_pos h]
theorem ordR_len {l : List PS} {na nb : Int} (h : May l na nb) : (ordR l na nb).length ≤ na.toNat + nb.toNat := by have := (split_ord h).2.2.2; omega
end Go.Proofs.Ytphmnjapjalfgaa.X
end
section
/- WeaveAll: plain. -/
namespace Go.Proofs.Ytphmnjapjalfgaa.X
open Go.RowKit Go.Proofs.YtphmnjapjalfgaaW.PrintWords
set_option linter.unusedVariables false
theorem pure_WeaveAll : ∀ (x0 : List PS) (x1 : Int) (x2 : Int), okT22 x0 → okT3 x1 → okT3 x2 → ∃ k, tartanlaw07_WeaveAll.f k x0 x1 x2 = some true := by
  intro x0 x1 x2 o0 o1 o2
  obtain ⟨k, hk⟩ := fuel6
  refine ⟨k + 30, ?_⟩
  unfold tartanlaw07_WeaveAll.f
  rw [works07, Option.bind_some, if_pos rfl]
  by_cases h0 : (x0.length : Int) > 60
  · rw [if_pos h0]; simp [tartanlaw07_WeaveAll.j0]
  · rw [if_neg h0]
    by_cases h1 : x1 > 60
    · rw [if_pos h1]; simp [tartanlaw07_WeaveAll.j0]
    · rw [if_neg h1]
      by_cases h2 : x2 > 60
      · rw [decide_eq_true h2]; simp [tartanlaw07_WeaveAll.j0]
      · have ok := okP_of o0 (by omega)
        rw [decide_eq_false h2]
        simp only [tartanlaw07_WeaveAll.j0]
        rw [if_neg (by decide), order_some ok (by omega) (by omega), Option.bind_some]
        by_cases hc : checkR x0 x1 x2 = 0
        · have hm := may_iff.1 hc
          have hol := ordR_len hm
          have a0 := hm.a0
          have b0 := hm.b0
          obtain ⟨e1, e2, e3, e4⟩ := split_ord hm
          have r1 := restR_le (x0.map (·.f0)) x1.toNat
          have r2 := restR_le (x0.map (·.f1)) x2.toNat
          rw [if_pos hc, if_pos hc]
          show ((weave_Split.f (ordR x0 x1 x2)).bind _) = _
          rw [split_some (by omega), Option.bind_some, e1, e2, e3]
          dsimp only
          rw [refSame_some (by omega) (by omega), Option.bind_some, if_pos (sameB_refl _), restB_some ok (by omega), Option.bind_some, refInts_some (by omega) (by omega), Option.bind_some, if_pos (decide_eq_true rfl), restA_some ok (by omega), Option.bind_some,
            refInts_some (by omega) (by omega), Option.bind_some, if_pos trivial, if_pos (decide_eq_true rfl), wrap_in (n := x1 + x2) (by omega) (by omega), wrap_in (by omega) (by omega)]
          congr 1
          simp only [beq_iff_eq]
          omega
        · rw [if_neg hc, if_neg hc, if_pos trivial]
          show (if (([] : List PS).length : Int) = 0 then _ else _) = _
          rw [if_pos (by simp), check_some ok, Option.bind_some]
          simp
end Go.Proofs.Ytphmnjapjalfgaa.X
end
section
/- WeaveAll: for every input the law returns true, and its arguments read as they did. -/
namespace Go.Proofs.Ytphmnjapjalfgaa.weaveAll
open Go.ChangeShapes Go.WideShapes Go.ChangeAt Go.RowKit Go.Proofs.Ytphmnjapjalfgaa.X Go.Proofs.Ytphmnjapjalfgaa.GOpen Go.Proofs.YtphmnjapjalfgaaW.PrintWords
open Go.ChangeMaps (open_string shut_string)
set_option linter.unusedVariables false
set_option maxRecDepth 100000 in
theorem lifted (os : Os) (started : os.Started) (H : Type) (enc : TypeId × Value → H) :
    ReturnsInHanded {} Try.checked os 13 .any (Rows.weaveAllSpec.pre6 enc Try.prog Try.f13 Rows.weaveAllRow.domain false) (Rows.weaveAllSpec.post enc Try.prog Try.f13 false true false false) := by
  refine returnsInHanded_of_change (C := Try.checked) own started (by kernel_rfl) Try.func13
    (ChangeSpec.witness6 (enc := enc) (C := Try.checked) false ⟨#[], #[.slice none 0 0, .int .i64 0, .int .i64 0], []⟩ 8 (by kernel_rfl) (by kernel_rfl) (by kernel_rfl) (by kernel_rfl)) ?_
  intro W base args ds gs before hval0 hW hcnd _
  have hval : ∀ (j : Nat) t v, Try.f13.params[j]? = some t → args[j]? = some v → Value.okWide Try.prog W .any base t v := hval0
  have hW' := hW
  obtain ⟨p, q, hA0, hV, rfl, hfz, hnd⟩ := hW
  have hA : DataW.TrodAll enc Try.prog W 0 (fun _ => true) true Try.f13.params.toList args.toList ds p := hA0
  rw [Try.params13] at hA hval
  obtain ⟨v0, vs0, d0, ds0, p0, q0, hargs, rfl, rfl, h0, r0⟩ := trodAll_cons hA
  obtain ⟨v1, vs1, d1, ds1, p1, q1, rfl, rfl, rfl, h1, r1⟩ := trodAll_cons r0
  obtain ⟨v2, vs2, d2, ds2, p2, q2, rfl, rfl, rfl, h2, r2⟩ := trodAll_cons r1
  obtain ⟨rfl, rfl, rfl⟩ := trodAll_nil r2
  obtain rfl : args = #[v0, v1, v2] := by cases args; simp_all
  obtain ⟨rfl, rfl⟩ := trodVars_none hV
  have k0 := h0
  have lt0 : ∀ x ∈ p0, x.block < W.heap.size := by obtain ⟨m, hm⟩ := k0; exact DataW.trod_lt m _ _ _ hm
  obtain ⟨A0, c0, x0, rfl, hc0, hC0, o0⟩ := arg_slice (Opens.slice opens37 Try.underlying22 (by kernel_rfl)) Try.underlying22 (hval 0 22 v0 rfl rfl) h0
  obtain ⟨x1, rfl, rfl, rfl, w1⟩ := open_int Try.underlying3 (hval 1 3 v1 rfl rfl) h1
  obtain ⟨x2, rfl, rfl, rfl, w2⟩ := open_int Try.underlying3 (hval 2 3 v2 rfl rfl) h2
  clear hA0 hval0
  obtain ⟨k, hp⟩ := pure_WeaveAll x0 x1 x2 o0 w1 w2
  refine (tartanlaw07_WeaveAll.calls k A0 c0 x0 x1 x2 true W hC0 hc0 hp).mono fun e W' ⟨he, bel0⟩ => ?_
  have bel : Below W.heap.size W W' := bel0
  subst he
  exact ⟨_, rfl, _, _, _, [], _, [], hW', trodAll_mk1 (shut_bool Try.underlying4 _), (trodAll_cons_mk (Below.trod laidOut (by kernel_rfl) (of_decide_eq_true (by kernel_rfl)) k0 bel lt0) (trodAll_cons_mk (shut_int Try.underlying3 w1) (trodAll_cons_mk (shut_int Try.underlying3 w2) trodAll_mk0))), rfl, bel.frame _, fun h => by cases h⟩
theorem over : Rows.weaveAllRow.holds Try.pinned (OpenSpec.ofChange Rows.weaveAllSpec) :=
  OpenClaim.holds_of_wide 13 Try.f13 rfl rfl rfl rfl rfl rfl rfl ⟨rfl, rfl, rfl, rfl, rfl⟩ rfl rfl rfl rfl rfl (by kernel_rfl) Try.func13 (by kernel_rfl)
    (of_decide_eq_true (by kernel_rfl)) (by unfold Func.isWrapper; first | (rw [if_pos (by decide +kernel)]; kernel_rfl) | (rw [if_neg (by decide +kernel)]; exact ⟨rfl, rfl⟩))
    (fun os started H enc _ => lifted os started H enc)
theorem proved : Rows.WeaveAllSaid := over
#print axioms proved
end Go.Proofs.Ytphmnjapjalfgaa.weaveAll
namespace Go.Proofs.Ytphmnjapjalfgaa
/-- The row, under a short name, for the claim. -/
theorem weaveAll_holds : Rows.WeaveAllSaid := weaveAll.proved
end Go.Proofs.Ytphmnjapjalfgaa
end
