/- How long a rising choice can be from each place on: what pairs.long and the reference's Long compute. -/
import Derived.Test.YtphmnjapjalfgaaGLong
import Derived.Test.YtphmnjapjalfgaaGPairs4
namespace Go.Proofs.Ytphmnjapjalfgaa.X
open Go.RowKit Go.Proofs.YtphmnjapjalfgaaW.PrintWords
set_option linter.unusedVariables false

/-- The most of some numbers, those of what is more than a. -/
def mxAfter (a : Int) : List Int → List Nat → Nat
  | b :: bs, n :: ns => max (if a < b then n else 0) (mxAfter a bs ns)
  | _, _ => 0
def lng : List Int → List Nat
  | [] => []
  | a :: xs => (mxAfter a xs (lng xs) + 1) :: lng xs
theorem lng_len : ∀ xs : List Int, (lng xs).length = xs.length
  | [] => rfl
  | a :: xs => by simp [lng, lng_len xs]
theorem lng_drop : ∀ (xs : List Int) (q : Nat), (lng xs).drop q = lng (xs.drop q)
  | xs, 0 => rfl
  | [], q + 1 => rfl
  | a :: xs, q + 1 => lng_drop xs q
theorem mxAfter_snoc (a b : Int) (n : Nat) : ∀ (bs : List Int) (ns : List Nat), bs.length = ns.length → mxAfter a (bs ++ [b]) (ns ++ [n]) = max (mxAfter a bs ns) (if a < b then n else 0)
  | [], [], _ => by simp [mxAfter]
  | c :: bs, m :: ns, h => by
    simp only [List.cons_append, mxAfter]
    rw [mxAfter_snoc a b n bs ns (by simpa using h)]
    omega
theorem mxAfter_le (a : Int) (k : Nat) : ∀ (bs : List Int) (ns : List Nat), (∀ n ∈ ns, n ≤ k) → mxAfter a bs ns ≤ k
  | [], _, _ => Nat.zero_le _
  | _ :: _, [], _ => Nat.zero_le _
  | b :: bs, n :: ns, h => by
    have h1 := h n List.mem_cons_self
    have h2 := mxAfter_le a k bs ns (fun m hm => h m (List.mem_cons_of_mem _ hm))
    unfold mxAfter
    split <;> omega
theorem lng_le : ∀ (xs : List Int), ∀ n ∈ lng xs, n ≤ xs.length
  | [], _, h => by simp [lng] at h
  | a :: xs, n, h => by
    rcases List.mem_cons.1 h with rfl | h'
    · have := mxAfter_le a xs.length xs (lng xs) (lng_le xs); simp; omega
    · have := lng_le xs n h'; simp; omega
theorem lng_pos : ∀ (xs : List Int), ∀ n ∈ lng xs, 1 ≤ n
  | [], _, h => by simp [lng] at h
  | a :: xs, n, h => by
    rcases List.mem_cons.1 h with rfl | h'
    · omega
    · exact lng_pos xs n h'

theorem wrap_in6 {n : Int} (h0 : -1000000000000 ≤ n) (h1 : n ≤ 1000000000000) : wrap64 n = n := by unfold wrap64; omega
theorem setI (xs : List Int) (j : Nat) (v : Int) (q : Nat) (hj : j < xs.length) : (xs.set j v).getD q 0 = if q = j then v else xs.getD q 0 := by
  rw [List.getD_eq_getElem?_getD, List.getElem?_set, List.getD_eq_getElem?_getD]
  by_cases e : j = q
  · rw [if_pos e, if_pos e.symm, if_pos (by omega)]; rfl
  · rw [if_neg e, if_neg (fun h => e h.symm)]
abbrev As (l : List PS) : List Int := l.map (·.f0)
theorem As_get (l : List PS) {k : Nat} (hk : k < l.length) : (As l).getD k 0 = (rd_T37 l (k : Int)).f0 := by
  unfold rd_T37
  rw [show ((k : Int)).toNat = k from rfl, List.getD_eq_getElem?_getD, List.getElem?_map, List.getElem?_eq_getElem hk, List.getD_eq_getElem?_getD, List.getElem?_eq_getElem hk]; rfl
theorem takeSucc {α : Type} (d : α) (xs : List α) (i k : Nat) (hk : i + k < xs.length) : (xs.drop i).take (k + 1) = (xs.drop i).take k ++ [xs.getD (i + k) d] := by
  rw [List.take_succ_eq_append_getElem (by rw [List.length_drop]; omega), List.getElem_drop, List.getD_eq_getElem?_getD, List.getElem?_eq_getElem hk]; rfl
theorem lng_at (xs : List Int) (i : Nat) (hi : i < xs.length) : (lng xs).getD i 0 = mxAfter (xs.getD i 0) (xs.drop (i + 1)) ((lng xs).drop (i + 1)) + 1 := by
  have h1 : (lng xs).getD i 0 = ((lng xs).drop i).getD 0 0 := by rw [List.getD_eq_getElem?_getD, List.getD_eq_getElem?_getD, List.getElem?_drop, Nat.add_zero]
  rw [h1, lng_drop, List.drop_eq_getElem_cons hi, lng_drop, List.getD_eq_getElem?_getD, List.getD_eq_getElem?_getD, List.getElem?_eq_getElem hi]; rfl
theorem lng_getD_le (xs : List Int) (q : Nat) : (lng xs).getD q 0 ≤ xs.length := by
  rw [List.getD_eq_getElem?_getD]
  rcases Nat.lt_or_ge q (lng xs).length with h | h
  · rw [List.getElem?_eq_getElem h]; exact lng_le xs _ (List.getElem_mem h)
  · rw [List.getElem?_eq_none h]; exact Nat.zero_le _

theorem long_l1 (l : List PS) (hl : l.length ≤ 100000) (i : Nat) (hi : i < l.length) : ∀ (d k K : Nat) (r : List Int), k + d = l.length → i < k → r.length = l.length → (∀ q, i < q → q < l.length → r.getD q 0 = (((lng (As l)).getD q 0 : Nat) : Int)) →
    r.getD i 0 = ((mxAfter ((As l).getD i 0) (((As l).drop (i + 1)).take (k - (i + 1))) (((lng (As l)).drop (i + 1)).take (k - (i + 1))) + 1 : Nat) : Int) →
    ∃ r', r'.length = l.length ∧ (∀ q, i ≤ q → q < l.length → r'.getD q 0 = (((lng (As l)).getD q 0 : Nat) : Int)) ∧ pairs_long.l1 (K + d + 1) l r (i : Nat) (k : Nat) = pairs_long.l0 K l r' ((i : Int) - 1) := by
  have hAl : (As l).length = l.length := by simp
  have hNl : (lng (As l)).length = l.length := by rw [lng_len, hAl]
  intro d
  induction d with
  | zero =>
    intro k K r hk hik hr hq hri
    refine ⟨r, hr, fun q h1 h2 => ?_, ?_⟩
    · rcases Nat.lt_or_ge i q with h | h
      · exact hq q h h2
      · obtain rfl : q = i := by omega
        rw [hri, List.take_of_length_le (by rw [List.length_drop]; omega), List.take_of_length_le (by rw [List.length_drop]; omega), lng_at _ _ (by omega)]
    · rw [show K + 0 + 1 = K + 1 from rfl]
      simp only [pairs_long.l1]
      rw [if_neg (by omega), wrap_in6 (by omega) (by omega)]
  | succ d ih =>
    intro k K r hk hik hr hq hri
    have hkl : k < l.length := by omega
    have eA : ((As l).drop (i + 1)).take (k + 1 - (i + 1)) = ((As l).drop (i + 1)).take (k - (i + 1)) ++ [(As l).getD k 0] := by
      rw [show k + 1 - (i + 1) = (k - (i + 1)) + 1 from by omega, takeSucc 0 _ _ _ (by omega), show i + 1 + (k - (i + 1)) = k from by omega]
    have eN : ((lng (As l)).drop (i + 1)).take (k + 1 - (i + 1)) = ((lng (As l)).drop (i + 1)).take (k - (i + 1)) ++ [(lng (As l)).getD k 0] := by
      rw [show k + 1 - (i + 1) = (k - (i + 1)) + 1 from by omega, takeSucc 0 _ _ _ (by omega), show i + 1 + (k - (i + 1)) = k from by omega]
    have ih' := ih (k + 1) K
    have hsn := mxAfter_snoc ((As l).getD i 0) ((As l).getD k 0) ((lng (As l)).getD k 0) (((As l).drop (i + 1)).take (k - (i + 1))) (((lng (As l)).drop (i + 1)).take (k - (i + 1))) (by rw [List.length_take, List.length_take, List.length_drop, List.length_drop, hAl, hNl])
    rw [← eA, ← eN] at hsn
    have hb := lng_getD_le (As l) k
    rw [hAl] at hb
    have hrk : rd r (k : Int) = (((lng (As l)).getD k 0 : Nat) : Int) := hq k hik hkl
    have hri' : rd r (i : Int) = ((mxAfter ((As l).getD i 0) (((As l).drop (i + 1)).take (k - (i + 1))) (((lng (As l)).drop (i + 1)).take (k - (i + 1))) + 1 : Nat) : Int) := hri
    have a1 := As_get l hkl
    have a2 := As_get l hi
    obtain ⟨F, hF⟩ : ∃ F, K + d + 1 = F := ⟨_, rfl⟩
    rw [hF] at ih'
    rw [show K + (d + 1) + 1 = F + 1 from by omega]
    simp only [pairs_long.l1]
    rw [show wrap64 ((k : Int) + 1) = ((k + 1 : Nat) : Int) from by rw [wrap_in6 (by omega) (by omega)]; omega]
    rw [if_pos (by omega), if_pos (by omega), if_pos (by omega), if_pos (by omega), ← a1, ← a2]
    generalize mxAfter ((As l).getD i 0) (((As l).drop (i + 1)).take (k - (i + 1))) (((lng (As l)).drop (i + 1)).take (k - (i + 1))) = M at *
    by_cases c : (As l).getD i 0 < (As l).getD k 0
    · rw [if_pos (show (As l).getD k 0 > (As l).getD i 0 from c), if_pos (show (i : Int) < (r.length : Int) from by omega), if_pos (show (k : Int) < (r.length : Int) from by omega), hrk, hri', wrap_in6 (n := (((lng (As l)).getD k 0 : Nat) : Int) + 1) (by omega) (by omega)]
      rw [if_pos c] at hsn
      refine ih' _ (by omega) (by omega) ?_ (fun q h1 h2 => ?_) ?_
      · rw [List.length_set]; exact hr
      · rw [show ((i : Int)).toNat = i from rfl, setI _ _ _ _ (by omega), if_neg (by omega)]; exact hq q h1 h2
      · rw [show ((i : Int)).toNat = i from rfl, setI _ _ _ _ (by omega), if_pos rfl, hsn]
        unfold mx
        split <;> omega
    · rw [if_neg (by omega)]
      rw [if_neg c] at hsn
      refine ih' r (by omega) (by omega) hr hq ?_
      rw [hri, hsn]; simp
def lngI (l : List PS) : List Int := (lng (As l)).map fun (n : Nat) => ((n : Nat) : Int)
theorem lngI_len (l : List PS) : (lngI l).length = l.length := by unfold lngI; rw [List.length_map, lng_len]; simp
theorem eq_lngI (l : List PS) (r : List Int) (hr : r.length = l.length) (hq : ∀ q, q < l.length → r.getD q 0 = (((lng (As l)).getD q 0 : Nat) : Int)) : r = lngI l := by
  have hNl : (lng (As l)).length = l.length := by rw [lng_len]; simp
  refine List.ext_getElem (by rw [hr, lngI_len]) fun q h1 h2 => ?_
  have h3 := hq q (by omega)
  rw [List.getD_eq_getElem?_getD, List.getElem?_eq_getElem h1, List.getD_eq_getElem?_getD, List.getElem?_eq_getElem (by omega)] at h3
  have h5 : (lngI l)[q]'h2 = (((lng (As l))[q]'(by omega) : Nat) : Int) := List.getElem_map _
  rw [h5]
  exact h3
theorem long_l0 (l : List PS) (hl : l.length ≤ 100000) : ∀ (d K : Nat) (r : List Int), d ≤ l.length → r.length = l.length → (∀ q, d ≤ q → q < l.length → r.getD q 0 = (((lng (As l)).getD q 0 : Nat) : Int)) → d * (l.length + 3) < K →
    pairs_long.l0 K l r ((d : Int) - 1) = some (lngI l) := by
  intro d
  induction d with
  | zero =>
    intro K r hd hr hq hK
    obtain ⟨K, rfl⟩ : ∃ m, K = m + 1 := ⟨K - 1, by omega⟩
    simp only [pairs_long.l0]
    rw [if_neg (by omega), eq_lngI l r hr (fun q h => hq q (Nat.zero_le _) h)]
  | succ d ih =>
    intro K r hd hr hq hK
    obtain ⟨K, rfl⟩ : ∃ m, K = m + 1 := ⟨K - 1, by omega⟩
    have hdl : d < l.length := by omega
    rw [Nat.add_mul] at hK
    have e0 : (((d + 1 : Nat) : Int) - 1) = (d : Int) := by omega
    rw [e0]
    obtain ⟨r', h1, h2, h3⟩ := long_l1 l hl d hdl (l.length - (d + 1)) (d + 1) (K - (l.length - (d + 1)) - 1) (r.set d 1) (by omega) (by omega) (by rw [List.length_set]; exact hr)
      (fun q g1 g2 => by rw [setI _ _ _ _ (by omega), if_neg (by omega)]; exact hq q (by omega) g2) (by rw [setI _ _ _ _ (by omega), if_pos rfl, Nat.sub_self]; simp [mxAfter])
    rw [show K - (l.length - (d + 1)) - 1 + (l.length - (d + 1)) + 1 = K from by omega] at h3
    have h4 := ih (K - (l.length - (d + 1)) - 1) r' (by omega) h1 h2 (by omega)
    simp only [pairs_long.l0]
    rw [show wrap64 ((d : Int) + 1) = ((d + 1 : Nat) : Int) from by rw [wrap_in6 (by omega) (by omega)]; omega]
    rw [if_pos (by omega), if_pos (by omega), if_pos (by omega), show ((d : Int)).toNat = d from rfl]
    exact h3.trans h4
theorem long_some (l : List PS) (hl : l.length ≤ 100000) {K : Nat} (hK : l.length * (l.length + 3) < K) : pairs_long.f K l = some (lngI l) := by
  unfold pairs_long.f
  rw [if_pos (by omega), show ((l.length : Int)).toNat = l.length from rfl, if_pos (by omega), wrap_in6 (by omega) (by omega)]
  exact long_l0 l hl l.length K _ (Nat.le_refl _) (by simp) (fun q h1 h2 => by omega) hK
end Go.Proofs.Ytphmnjapjalfgaa.X
