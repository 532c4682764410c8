/- What the references of layer 12 compute; rows in order, plainly. -/
import Derived.Test.YtchpgkojlhipgaaPFew
import Derived.Test.YtchpgkojlhipgaaGFind
import Derived.Test.YtchpgkojlhipgaaX11
import Derived.Test.YtchpgkojlhipgaaX10
import Derived.Test.YtchpgkojlhipgaaX14
import Derived.Test.YtchpgkojlhipgaaX9
import Derived.Test.YtchpgkojlhipgaaX1
import Derived.Test.YtchpgkojlhipgaaX12
import Derived.Test.YtchpgkojlhipgaaX5
namespace Go.Proofs.Ytchpgkojlhipgaa.X
open Go.RowKit Go.Proofs.YtchpgkojlhipgaaW.PrintWords
set_option linter.unusedVariables false

theorem rcell_some (h : List ByteArray) (rows : List (List ByteArray)) (r c : Int) : tartanref04_Cell.f h rows r c = some (cellR rows r c) := by
  rw [← cell_some h rows r c]; rfl
theorem rkey_l0 (h : List ByteArray) (rows : List (List ByteArray)) (r : Int) (cols : List Int) (hc : cols.length ≤ 1000000) : ∀ (d k i : Nat), i + d = cols.length → d < k → tartanref11_Key.l0 k r cols ((keyR rows r cols).take i) (i : Nat) h rows = some (keyR rows r cols) := by
  have hl := keyR_len rows r cols
  intro d
  induction d with
  | zero =>
    intro k i hi hk
    obtain ⟨k, rfl⟩ : ∃ m, k = m + 1 := ⟨k - 1, by omega⟩
    simp only [tartanref11_Key.l0]
    rw [if_neg (by omega), List.take_of_length_le (by omega)]
  | succ d ih =>
    intro k i hi hk
    obtain ⟨k, rfl⟩ : ∃ m, k = m + 1 := ⟨k - 1, by omega⟩
    have ih' := ih k (i + 1) (by omega) (by omega)
    have et : (keyR rows r cols).take (i + 1) = (keyR rows r cols).take i ++ [cellR rows r (rd cols (i : Int))] := by
      unfold keyR
      rw [← List.map_take, ← List.map_take, List.take_succ_eq_append_getElem (by omega), List.map_append]
      have e : rd cols (i : Int) = cols[i] := by unfold rd; rw [show ((i : Int)).toNat = i from rfl, List.getD_eq_getElem?_getD, List.getElem?_eq_getElem (by omega)]; rfl
      rw [e]; rfl
    simp only [tartanref11_Key.l0]
    rw [if_pos (by omega), if_pos (by omega), rcell_some, Option.bind_some, if_pos (by rw [List.length_take]; omega), wrap_upK _ (by omega), ← et, ih']
theorem rkey_some {h : List ByteArray} {rows : List (List ByteArray)} {r : Int} {cols : List Int} (hc : cols.length ≤ 1000000) {k : Nat} (hk : cols.length < k) : tartanref11_Key.f k h rows r cols = some (keyR rows r cols) := by
  unfold tartanref11_Key.f
  exact rkey_l0 h rows r cols hc cols.length k 0 (by omega) hk
theorem gkey_some {h : List ByteArray} {rows : List (List ByteArray)} {r : Int} {cols : List Int} (hc : cols.length ≤ 1000000) {k : Nat} (hk : cols.length < k) : index_Key.f k h rows r cols = some (keyR rows r cols) := by
  unfold index_Key.f
  exact key_l0 h rows r cols hc cols.length k 0 (by omega) hk
theorem rcmp_l0 (a b : List ByteArray) (ha : a.length ≤ 1000000) (hb : b.length ≤ 1000000) : ∀ (d k i : Nat), i + d = a.length → i ≤ b.length → 2 * d + 1 < k → tartanref12_Compare.l0 k a b (i : Nat) = some (cmpS (a.drop i) (b.drop i)) := by
  intro d
  induction d with
  | zero =>
    intro k i hi hib hk
    obtain ⟨k, rfl⟩ : ∃ m, k = m + 2 := ⟨k - 2, by omega⟩
    simp only [tartanref12_Compare.l0]
    rw [if_neg (by omega)]
    simp only [tartanref12_Compare.j1]
    rw [if_neg (by decide), cmpS_nil _ _ (.inl (List.drop_eq_nil_of_le (by omega))), ← cmpI_len (a := a.length) (b := b.length) i (by rw [List.length_drop]; omega) (by rw [List.length_drop]; omega)]
    unfold cmpI
    split
    · rfl
    · split <;> rfl
  | succ d ih =>
    intro k i hi hib hk
    obtain ⟨k, rfl⟩ : ∃ m, k = m + 2 := ⟨k - 2, by omega⟩
    simp only [tartanref12_Compare.l0]
    rw [if_pos (by omega)]
    by_cases h : i < b.length
    · rw [decide_eq_true (by omega)]
      simp only [tartanref12_Compare.j1]
      rw [if_pos trivial, if_pos (by omega), if_pos (by omega), if_pos (by omega), wrap_upK _ (by omega), ih k (i + 1) (by omega) (by omega) (by omega), dropB (l := a) (t := i) (by omega), dropB (l := b) (t := i) (by omega)]
      simp only [cmpS]
      unfold cmp1
      generalize rdOf ByteArray.empty a (i : Int) = x
      generalize rdOf ByteArray.empty b (i : Int) = y
      by_cases h1 : Op.bytesLess x.toList y.toList = true
      · rw [if_pos h1, if_pos h1]; rfl
      · rw [if_neg h1, if_neg h1]
        by_cases h2 : Op.bytesLess y.toList x.toList = true
        · rw [if_pos h2, if_pos h2]; rfl
        · rw [if_neg h2, if_neg h2]; rfl
    · rw [decide_eq_false (by omega)]
      simp only [tartanref12_Compare.j1]
      rw [if_neg (by decide), cmpS_nil _ _ (.inr (List.drop_eq_nil_of_le (by omega))), ← cmpI_len (a := a.length) (b := b.length) i (by rw [List.length_drop]; omega) (by rw [List.length_drop]; omega)]
      unfold cmpI
      split
      · rfl
      · split <;> rfl
theorem rcmp_some {a b : List ByteArray} (ha : a.length ≤ 1000000) (hb : b.length ≤ 1000000) {k : Nat} (hk : 2 * a.length + 1 < k) : tartanref12_Compare.f k a b = some (cmpS a b) := by
  unfold tartanref12_Compare.f
  exact rcmp_l0 a b ha hb a.length k 0 (by omega) (by omega) hk
theorem gcmp_some {a b : List ByteArray} (ha : a.length ≤ 1000000) (hb : b.length ≤ 1000000) {k : Nat} (hk : a.length < k) : index_Compare.f k a b = some (cmpS a b) := by
  unfold index_Compare.f index_rows_string.f
  have h := rows_l0 a b ha hb (min a.length b.length) k 0 (by omega) (by omega)
  rw [List.drop_zero, List.drop_zero] at h
  have h' : index_rows_string.l0 k a b (mn (a.length : Int) (b.length : Int)) 0 = some (cmpS a b) := h
  rw [h']; rfl
theorem rints_l0 (a b : List Int) (hab : a.length = b.length) (ha : a.length ≤ 1000000) : ∀ (d k i : Nat), i + d = a.length → d < k → tartanref06_Ints.l0 k a b (i : Nat) = some (decide (a.drop i = b.drop i)) := by
  intro d
  induction d with
  | zero =>
    intro k i hi hk
    obtain ⟨k, rfl⟩ : ∃ m, k = m + 1 := ⟨k - 1, by omega⟩
    simp only [tartanref06_Ints.l0]
    rw [if_neg (by omega), List.drop_eq_nil_of_le (by omega), List.drop_eq_nil_of_le (by omega)]; simp
  | succ d ih =>
    intro k i hi hk
    obtain ⟨k, rfl⟩ : ∃ m, k = m + 1 := ⟨k - 1, by omega⟩
    have ih' := ih k (i + 1) (by omega) (by omega)
    simp only [tartanref06_Ints.l0]
    rw [if_pos (by omega), if_pos (by omega), if_pos (by omega), wrap_upK _ (by omega), ih', dropK (l := a) (t := i) (by omega), dropK (l := b) (t := i) (by omega)]
    by_cases e : rd a (i : Int) = rd b (i : Int)
    · rw [if_pos e]; simp [e]
    · rw [if_neg e]; simp [e]
theorem rints_some {a b : List Int} (ha : a.length ≤ 1000000) {k : Nat} (hk : a.length < k) : tartanref06_Ints.f k a b = some (decide (a = b)) := by
  unfold tartanref06_Ints.f
  by_cases e : a.length = b.length
  · rw [if_pos (by omega)]
    exact rints_l0 a b e ha a.length k 0 (by omega) hk
  · rw [if_neg (by omega), decide_eq_false]
    rintro rfl; exact e rfl
theorem rrow_l0 (a b : List ByteArray) (hab : a.length = b.length) (ha : a.length ≤ 1000000) : ∀ (d k i : Nat), i + d = a.length → d < k → tartanref03_Row.l0 k a b (i : Nat) = some (decide (a.drop i = b.drop i)) := by
  intro d
  induction d with
  | zero =>
    intro k i hi hk
    obtain ⟨k, rfl⟩ : ∃ m, k = m + 1 := ⟨k - 1, by omega⟩
    simp only [tartanref03_Row.l0]
    rw [if_neg (by omega), List.drop_eq_nil_of_le (by omega), List.drop_eq_nil_of_le (by omega)]; simp
  | succ d ih =>
    intro k i hi hk
    obtain ⟨k, rfl⟩ : ∃ m, k = m + 1 := ⟨k - 1, by omega⟩
    have ih' := ih k (i + 1) (by omega) (by omega)
    simp only [tartanref03_Row.l0]
    rw [if_pos (by omega), if_pos (by omega), if_pos (by omega), wrap_upK _ (by omega), ih', dropB (l := a) (t := i) (by omega), dropB (l := b) (t := i) (by omega)]
    by_cases e : rdOf ByteArray.empty a (i : Int) = rdOf ByteArray.empty b (i : Int)
    · rw [if_pos (by rw [e])]; simp [e]
    · rw [if_neg (fun h => e (bstr_eq.1 h))]; simp [e]
theorem rrow_some {a b : List ByteArray} (ha : a.length ≤ 1000000) {k : Nat} (hk : a.length < k) : tartanref03_Row.f k a b = some (decide (a = b)) := by
  unfold tartanref03_Row.f
  by_cases e : a.length = b.length
  · rw [if_pos (by omega)]
    exact rrow_l0 a b e ha a.length k 0 (by omega) hk
  · rw [if_neg (by omega), decide_eq_false]
    rintro rfl; exact e rfl

/-! Rows in order: one after the other is put in. -/
theorem mem_rngI {n : Nat} {x : Int} : x ∈ rngI n ↔ 0 ≤ x ∧ x < (n : Int) := by
  unfold rngI
  simp only [List.mem_map, List.mem_range]
  constructor
  · rintro ⟨i, hi, rfl⟩; omega
  · rintro ⟨h1, h2⟩; exact ⟨x.toNat, by omega, by omega⟩
theorem rd_getI {l : List Int} {i : Nat} (h : i < l.length) : rd l (i : Int) = l[i] := by
  unfold rd; rw [show ((i : Int)).toNat = i from rfl, List.getD_eq_getElem?_getD, List.getElem?_eq_getElem h]; rfl
theorem rd_memK {l : List Int} {i : Nat} (h : i < l.length) : rd l (i : Int) ∈ l := by rw [rd_getI h]; exact List.getElem_mem h
section
variable (rows : List (List ByteArray)) (cols : List Int)
theorem sortB_perm (l : List Int) : (sortB rows cols l).Perm l := GIns.perm_isort _ _
theorem sortB_sorted (l : List Int) : (sortB rows cols l).Pairwise (fun a b => leB rows cols a b = true) := GIns.sort_isort _ (leB_tot rows cols) (leB_trans rows cols) l
theorem sortB_uniq {l l' : List Int} (hp : l'.Perm l) (hs : l'.Pairwise (fun a b => leB rows cols a b = true)) : sortB rows cols l = l' :=
  GIns.sorted_unique _ (leB_anti rows cols) _ _ ((sortB_perm rows cols l).trans hp.symm) (sortB_sorted rows cols l) hs
abbrev kc (a b : Int) : Int := cmpS (keyR rows a cols) (keyR rows b cols)
theorem leB_iff {a b : Int} : leB rows cols a b = true ↔ kc rows cols a b < 0 ∨ kc rows cols a b = 0 ∧ a ≤ b := by
  unfold leB
  rw [Bool.not_eq_true', decide_eq_false_iff_not]
  unfold Bef kc
  have := cmpS_neg (keyR rows a cols) (keyR rows b cols)
  omega
/-- Where the next one is put. -/
structure PutAt (out : List Int) (i : Int) (j kk : Nat) : Prop where
  le : kk ≤ j
  lo : kk = 0 ∨ kc rows cols (rd out ((kk - 1 : Nat) : Int)) i ≤ 0
  hi : ∀ t, kk ≤ t → t < j → 0 < kc rows cols (rd out (t : Int)) i
theorem put_next {out : List Int} {i : Int} (n : Nat) (hi : i = (n : Int)) (ho : out = sortB rows cols (rngI n)) {kk : Nat} (h : PutAt rows cols out i out.length kk) : out.take kk ++ [i] ++ out.drop kk = sortB rows cols (rngI (n + 1)) := by
  have hp : out.Perm (rngI n) := ho ▸ sortB_perm rows cols _
  have hs : out.Pairwise (fun a b => leB rows cols a b = true) := ho ▸ sortB_sorted rows cols _
  have hmem : ∀ x ∈ out, x < i := fun x hx => by have := (mem_rngI.1 (hp.mem_iff.1 hx)).2; omega
  have h1 : ∀ x ∈ out.take kk, leB rows cols x i = true := by
    intro x hx
    obtain ⟨t, ht, rfl⟩ := List.getElem_of_mem hx
    have ht' : t < kk ∧ t < out.length := by rw [List.length_take] at ht; omega
    rw [List.getElem_take]
    have h2 := hmem _ (List.getElem_mem ht'.2)
    refine (leB_iff rows cols).2 ?_
    have hk : kc rows cols out[t] i ≤ 0 := by
      rcases h.lo with h3 | h3
      · omega
      · have hle := h.le
        rw [rd_getI (by omega)] at h3
        rcases Nat.lt_or_ge t (kk - 1) with h4 | h4
        · have h5 := (leB_iff rows cols).1 (List.pairwise_iff_getElem.1 hs t (kk - 1) ht'.2 (by omega) h4)
          exact cmpS_le _ _ _ (by unfold kc at h5; omega) h3
        · have e : t = kk - 1 := by omega
          subst e; exact h3
    omega
  have h2 : ∀ x ∈ out.drop kk, leB rows cols i x = true := by
    intro x hx
    obtain ⟨t, ht, rfl⟩ := List.getElem_of_mem hx
    rw [List.getElem_drop]
    rw [List.length_drop] at ht
    have h3 := h.hi (kk + t) (by omega) (by omega)
    rw [rd_getI (by omega)] at h3
    refine (leB_iff rows cols).2 (.inl ?_)
    unfold kc at h3 ⊢
    have := cmpS_neg (keyR rows out[kk + t] cols) (keyR rows i cols)
    omega
  refine (sortB_uniq rows cols ?_ ?_).symm
  · rw [rngI_succ, ← hi]
    have e : out = out.take kk ++ out.drop kk := (List.take_append_drop kk out).symm
    refine List.Perm.trans ?_ (hp.append_right [i])
    rw [List.append_assoc]
    conv => rhs; rw [e]
    rw [List.append_assoc]
    exact List.Perm.append_left _ List.perm_append_comm
  · refine List.pairwise_append.2 ⟨List.pairwise_append.2 ⟨hs.sublist (List.take_sublist _ _), List.pairwise_singleton _ _, fun x hx y hy => ?_⟩, hs.sublist (List.drop_sublist _ _), fun x hx y hy => ?_⟩
    · simp only [List.mem_singleton] at hy; subst hy; exact h1 x hx
    · rcases List.mem_append.1 hx with hx | hx
      · exact leB_trans rows cols _ _ _ (h1 x hx) (h2 y hy)
      · simp only [List.mem_singleton] at hx; subst hx; exact h2 y hy
end
theorem rbuild_l1 (h : List ByteArray) (rows : List (List ByteArray)) (cols : List Int) (hr : rows.length ≤ 1000) (hc : cols.length ≤ 1000) (n : Nat) (hn : n < rows.length) (out : List Int) (ho : out = sortB rows cols (rngI n)) (F : Nat) (r : Option (List Int))
    (H : ∀ k', F ≤ k' → tartanref12_Build.l0 k' cols (sortB rows cols (rngI (n + 1))) (wrap64 ((n : Int) + 1)) h rows = r) :
    ∀ (d k j kk : Nat), j + d = out.length → d + F + 3000 ≤ k → PutAt rows cols out (n : Int) j kk → tartanref12_Build.l1 k cols out (n : Nat) (kk : Nat) (j : Nat) h rows = r := by
  have hlen : out.length = n := by rw [ho, sortB_len, rngI_len]
  intro d
  induction d with
  | zero =>
    intro k j kk hj hk hP
    obtain ⟨k, rfl⟩ : ∃ m, k = m + 1 := ⟨k - 1, by omega⟩
    obtain rfl : j = out.length := by omega
    have hle := hP.le
    have hN := put_next rows cols n rfl ho hP
    simp only [tartanref12_Build.l1]
    rw [if_neg (by omega), Option.bind_some, if_pos (by omega), if_pos (by omega), Option.bind_some]
    rw [show ((kk : Nat) : Int).toNat = kk from rfl]
    rw [if_pos (by rw [List.length_take]; simp; omega), Option.bind_some, if_pos (by rw [List.nil_append, List.length_take]; omega), Option.bind_some, Option.bind_some, if_pos (by rw [List.length_append, List.nil_append, List.length_take, List.length_drop, List.length_singleton]; omega)]
    rw [List.nil_append, hN]
    exact H k (by omega)
  | succ d ih =>
    intro k j kk hj hk hP
    obtain ⟨k, rfl⟩ : ∃ m, k = m + 1 := ⟨k - 1, by omega⟩
    simp only [tartanref12_Build.l1]
    rw [if_pos (by omega), if_pos (by omega), rkey_some (by omega) (by omega), Option.bind_some, rkey_some (by omega) (by omega), Option.bind_some, rcmp_some (by rw [keyR_len]; omega) (by rw [keyR_len]; omega) (by rw [keyR_len]; omega), Option.bind_some, wrap_upK _ (by omega)]
    by_cases c : cmpS (keyR rows (rd out (j : Int)) cols) (keyR rows (n : Int) cols) ≤ 0
    · rw [if_pos c]
      exact ih k (j + 1) (j + 1) (by omega) (by omega) ⟨Nat.le_refl _, .inr c, fun t h1 h2 => by omega⟩
    · rw [if_neg c]
      refine ih k (j + 1) kk (by omega) (by omega) ⟨by have := hP.le; omega, hP.lo, fun t h1 h2 => ?_⟩
      rcases Nat.lt_or_ge t j with h3 | h3
      · exact hP.hi t h1 h3
      · obtain rfl : t = j := by omega
        unfold kc; omega
theorem rbuild_l0 (h : List ByteArray) (rows : List (List ByteArray)) (cols : List Int) (hr : rows.length ≤ 1000) (hc : cols.length ≤ 1000) : ∀ (d k i : Nat), i + d = rows.length → d * 5000 + 1 ≤ k → tartanref12_Build.l0 k cols (sortB rows cols (rngI i)) (i : Nat) h rows = some (buildR rows cols) := by
  intro d
  induction d with
  | zero =>
    intro k i hi hk
    obtain ⟨k, rfl⟩ : ∃ m, k = m + 1 := ⟨k - 1, by omega⟩
    obtain rfl : i = rows.length := by omega
    simp only [tartanref12_Build.l0]
    rw [if_neg (by omega)]; rfl
  | succ d ih =>
    intro k i hi hk
    obtain ⟨k, rfl⟩ : ∃ m, k = m + 1 := ⟨k - 1, by omega⟩
    have hlen : (sortB rows cols (rngI i)).length = i := by rw [sortB_len, rngI_len]
    simp only [tartanref12_Build.l0]
    rw [if_pos (by omega)]
    refine rbuild_l1 h rows cols hr hc i (by omega) _ rfl (d * 5000 + 1) _ (fun k' hk' => ?_) i k 0 0 (by omega) (by omega) ⟨Nat.le_refl _, .inl rfl, fun t h1 h2 => by omega⟩
    rw [wrap_upK _ (by omega)]
    exact ih k' (i + 1) (by omega) hk'
theorem rbuild_some {h : List ByteArray} {rows : List (List ByteArray)} {cols : List Int} (hr : rows.length ≤ 100) (hc : cols.length ≤ 1000) {k : Nat} (hk : 600000 ≤ k) : tartanref12_Build.f k h rows cols = some (buildR rows cols) := by
  unfold tartanref12_Build.f
  exact rbuild_l0 h rows cols (by omega) hc rows.length k 0 (by omega) (by omega)
theorem build_some {h : List ByteArray} {rows : List (List ByteArray)} {cols : List Int} (hr : rows.length ≤ 100) (hc : cols.length ≤ 1000) : index_Build.f h rows cols = some (buildR rows cols) := by
  unfold index_Build.f; rw [if_pos ⟨by omega, by omega⟩]
theorem find_some {h : List ByteArray} {rows : List (List ByteArray)} {cols order : List Int} {key : List ByteArray} (hc : cols.length ≤ 1000) (ho : order.length ≤ 1000) (hk : key.length ≤ 1000) : index_Find.f h rows cols order key = some (findR rows cols order key) := by
  unfold index_Find.f; rw [if_pos ⟨by omega, by omega, by omega⟩]
theorem buildR_len (rows : List (List ByteArray)) (cols : List Int) : (buildR rows cols).length = rows.length := by unfold buildR; rw [sortB_len, rngI_len]
theorem works12 : ∀ k, tartanlaw12_works.f (k + 60) = some true := by intro k; kernel_rfl
theorem fuel12 : ∃ k : Nat, 2000000 ≤ k := ⟨2000000, Nat.le_refl _⟩
/-- Few: what is looked at. -/
theorem few12 (h : List ByteArray) (rows : List (List ByteArray)) (cols : List Int) {k : Nat} (hk : 10000 ≤ k) : ∃ b, tartanlaw12_few.f k h rows cols = some b ∧ (b = true → rows.length ≤ 40 ∧ cols.length ≤ 12) := by
  unfold tartanlaw12_few.f
  obtain ⟨b, e, hb⟩ := few4_some h rows hk
  rw [e, Option.bind_some]
  cases b with
  | false => rw [if_neg (by decide)]; exact ⟨false, rfl, fun h => by cases h⟩
  | true =>
    rw [if_pos rfl]
    by_cases h3 : (rows.length : Int) ≤ 40
    · rw [if_pos h3]
      exact ⟨_, rfl, fun h => ⟨by omega, by have := of_decide_eq_true h; omega⟩⟩
    · rw [if_neg h3]; exact ⟨false, rfl, fun h => by cases h⟩

/-! Where a key is found. -/
theorem bisL_spec (p : Nat → Bool) (n : Nat) (hm : ∀ a b, a ≤ b → b < n → p b = true → p a = true) : ∀ (d lo hi : Nat), hi - lo ≤ d → lo ≤ hi → hi ≤ n → (∀ a, a < lo → p a = true) → (∀ a, hi ≤ a → a < n → p a = false) →
    bisL p lo hi ≤ n ∧ (∀ a, a < bisL p lo hi → p a = true) ∧ (∀ a, bisL p lo hi ≤ a → a < n → p a = false) := by
  intro d
  induction d with
  | zero =>
    intro lo hi h1 h2 h3 h4 h5
    rw [bisL_end (by omega)]
    exact ⟨by omega, h4, fun a h6 h7 => h5 a (by omega) h7⟩
  | succ d ih =>
    intro lo hi h1 h2 h3 h4 h5
    by_cases hlt : lo < hi
    · by_cases hp : p (lo + (hi - lo) / 2) = true
      · rw [bisL_lo hlt hp]
        exact ih _ _ (by omega) (by omega) h3 (fun a ha => hm a (lo + (hi - lo) / 2) (by omega) (by omega) hp) h5
      · rw [bisL_hi hlt hp]
        refine ih _ _ (by omega) (by omega) (by omega) h4 (fun a ha1 ha2 => ?_)
        cases hq : p a with
        | false => rfl
        | true => exact absurd (hm _ a ha1 ha2 hq) hp
    · rw [bisL_end hlt]
      exact ⟨by omega, h4, fun a h6 h7 => h5 a (by omega) h7⟩
section
variable (rows : List (List ByteArray)) (cols : List Int) (key : List ByteArray)
theorem build_mem {x : Int} : x ∈ buildR rows cols ↔ 0 ≤ x ∧ x < (rows.length : Int) := by
  rw [← mem_rngI]; exact (sortB_perm rows cols _).mem_iff
theorem build_le {a b : Nat} (h : a < b) (hb : b < rows.length) : leB rows cols (rd (buildR rows cols) (a : Int)) (rd (buildR rows cols) (b : Int)) = true := by
  have hl := buildR_len rows cols
  rw [rd_getI (by omega), rd_getI (by omega)]
  exact List.pairwise_iff_getElem.1 (sortB_sorted rows cols _) a b (by show a < (buildR rows cols).length; omega) (by show b < (buildR rows cols).length; omega) h
theorem low_spec : lowR rows cols (buildR rows cols) key ≤ rows.length ∧ (∀ a, a < lowR rows cols (buildR rows cols) key → cmpS (keyR rows (rd (buildR rows cols) (a : Int)) cols) key < 0) ∧
    (∀ a, lowR rows cols (buildR rows cols) key ≤ a → a < rows.length → 0 ≤ cmpS (keyR rows (rd (buildR rows cols) (a : Int)) cols) key) := by
  have hl := buildR_len rows cols
  have h := bisL_spec (lowP rows cols (buildR rows cols) key) rows.length (fun a b hab hb hp => by
    rcases Nat.lt_or_eq_of_le hab with h1 | rfl
    · have h2 := (leB_iff rows cols).1 (build_le rows cols h1 hb)
      unfold lowP at hp ⊢
      exact decide_eq_true (cmpS_tr' _ _ _ (by unfold kc at h2; omega) (of_decide_eq_true hp))
    · exact hp) rows.length 0 rows.length (by omega) (by omega) (Nat.le_refl _) (fun a h => by omega) (fun a h1 h2 => by omega)
  unfold lowR
  rw [hl]
  refine ⟨h.1, fun a ha => of_decide_eq_true (h.2.1 a ha), fun a h1 h2 => ?_⟩
  have := of_decide_eq_false (h.2.2 a h1 h2)
  omega
/-- The first row of a key. -/
theorem find_first (r : Int) (h0 : 0 ≤ r) (hr : r < (rows.length : Int)) (hk : cmpS (keyR rows r cols) key = 0) (hmin : ∀ q, 0 ≤ q → q < r → cmpS (keyR rows q cols) key ≠ 0) : findR rows cols (buildR rows cols) key = (r, true) := by
  have hl := buildR_len rows cols
  obtain ⟨s1, s2, s3⟩ := low_spec rows cols key
  obtain ⟨t, ht, et⟩ := List.getElem_of_mem ((build_mem rows cols).2 ⟨h0, hr⟩)
  have et' : rd (buildR rows cols) (t : Int) = r := by rw [rd_getI ht]; exact et
  have hL : lowR rows cols (buildR rows cols) key ≤ t := by
    rcases Nat.lt_or_ge t (lowR rows cols (buildR rows cols) key) with h | h
    · have := s2 t h; rw [et'] at this; omega
    · exact h
  have hLt : lowR rows cols (buildR rows cols) key < rows.length := by omega
  have g1 := s3 _ (Nat.le_refl _) hLt
  have hmem := (build_mem rows cols).1 (rd_memK (l := buildR rows cols) (i := lowR rows cols (buildR rows cols) key) (by omega))
  have g2 : cmpS (keyR rows (rd (buildR rows cols) (lowR rows cols (buildR rows cols) key : Int)) cols) key = 0 ∧ rd (buildR rows cols) (lowR rows cols (buildR rows cols) key : Int) ≤ r := by
    rcases Nat.lt_or_eq_of_le hL with h | h
    · have h2 := (leB_iff rows cols).1 (build_le rows cols h (by omega))
      rw [et'] at h2
      unfold kc at h2
      have h3 : cmpS (keyR rows (rd (buildR rows cols) (lowR rows cols (buildR rows cols) key : Int)) cols) key = cmpS (keyR rows (rd (buildR rows cols) (lowR rows cols (buildR rows cols) key : Int)) cols) (keyR rows r cols) := by rw [cmpS_eq.1 hk]
      omega
    · rw [h, et']; exact ⟨hk, Int.le_refl _⟩
  unfold findR
  rw [if_pos ⟨by omega, g2.1⟩]
  have e : rd (buildR rows cols) (lowR rows cols (buildR rows cols) key : Int) = r := by
    rcases Int.lt_or_eq_of_le g2.2 with h | h
    · exact absurd g2.1 (hmin _ hmem.1 h)
    · exact h
  rw [e]
theorem find_none (hno : ∀ q, 0 ≤ q → q < (rows.length : Int) → cmpS (keyR rows q cols) key ≠ 0) : findR rows cols (buildR rows cols) key = (0, false) := by
  have hl := buildR_len rows cols
  unfold findR
  rw [if_neg]
  rintro ⟨h1, h2⟩
  have hmem := (build_mem rows cols).1 (rd_memK (l := buildR rows cols) (i := lowR rows cols (buildR rows cols) key) h1)
  exact hno _ hmem.1 hmem.2 h2
theorem find_key (order : List Int) : ((findR rows cols order key).2 = true → cmpS (keyR rows (findR rows cols order key).1 cols) key = 0) ∧ ((findR rows cols order key).2 = false → (findR rows cols order key).1 = 0) := by
  unfold findR
  split
  · rename_i h; exact ⟨fun _ => h.2, fun h => by cases h⟩
  · exact ⟨(fun h => by cases h), fun _ => rfl⟩
end
theorem rfind_l0 (h : List ByteArray) (rows : List (List ByteArray)) (cols : List Int) (key : List ByteArray) (hr : rows.length ≤ 1000) (hc : cols.length ≤ 1000) (hk : key.length ≤ 1000) : ∀ (d k i : Nat), i + d = rows.length → d + 3000 < k → (∀ q : Int, 0 ≤ q → q < (i : Int) → cmpS (keyR rows q cols) key ≠ 0) →
    tartanref12_Find.l0 k cols key (i : Nat) h rows = some (findR rows cols (buildR rows cols) key) := by
  intro d
  induction d with
  | zero =>
    intro k i hi hkk hno
    obtain ⟨k, rfl⟩ : ∃ m, k = m + 1 := ⟨k - 1, by omega⟩
    simp only [tartanref12_Find.l0]
    rw [if_neg (by omega), find_none rows cols key (fun q h1 h2 => hno q h1 (by omega))]
  | succ d ih =>
    intro k i hi hkk hno
    obtain ⟨k, rfl⟩ : ∃ m, k = m + 1 := ⟨k - 1, by omega⟩
    simp only [tartanref12_Find.l0]
    rw [if_pos (by omega), rkey_some (by omega) (by omega), Option.bind_some, rcmp_some (by rw [keyR_len]; omega) (by omega) (by rw [keyR_len]; omega), Option.bind_some]
    by_cases c : cmpS (keyR rows (i : Int) cols) key = 0
    · rw [if_pos c, find_first rows cols key (i : Int) (by omega) (by omega) c hno]
    · rw [if_neg c, wrap_upK _ (by omega)]
      refine ih k (i + 1) (by omega) (by omega) (fun q h1 h2 => ?_)
      rcases Int.lt_or_eq_of_le (show q ≤ (i : Int) by omega) with h3 | rfl
      · exact hno q h1 h3
      · exact c
theorem rfind_some {h : List ByteArray} {rows : List (List ByteArray)} {cols : List Int} {key : List ByteArray} (hr : rows.length ≤ 1000) (hc : cols.length ≤ 1000) (hk : key.length ≤ 1000) {k : Nat} (hkk : 5000 ≤ k) : tartanref12_Find.f k h rows cols key = some (findR rows cols (buildR rows cols) key) := by
  unfold tartanref12_Find.f
  exact rfind_l0 h rows cols key hr hc hk rows.length k 0 (by omega) (by omega) (fun q h1 h2 => by omega)
end Go.Proofs.Ytchpgkojlhipgaa.X
