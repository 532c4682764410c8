/- The texts that the law KeysLeast wants, part 5 of 5: what is kept of them. -/
import Derived.Test.YtbcpaojciephmaaCKeysLeast4
section
namespace Go.Proofs.Ytbcpaojciephmaa.X
open Go.RowKit Go.Proofs.YtbcpaojciephmaaW.PrintWords
set_option linter.unusedVariables false
/-- One row of numbers stands ahead of another of as many, or is it. -/
def LexLe : List Int → List Int → Prop
  | [], [] => True
  | a :: s, b :: t => a < b ∨ a = b ∧ LexLe s t
  | _, _ => False
theorem cho_mem {α : Type} {n : Nat} {l s : List α} (h : s ∈ cho n l) : ∀ x ∈ s, x ∈ l := fun x hx => (cho_sub n l s h).subset hx
theorem find_lex (pos : ByteArray → Int) : ∀ (m : Nat) (c : List ByteArray) (p : List ByteArray → Bool) (y x : List ByteArray), c.Pairwise (fun a b => pos a < pos b) → (cho m c).find? p = some y → x ∈ cho m c → p x = true → LexLe (y.map pos) (x.map pos)
  | 0, c, p, y, x, hc, hy, hx, hp => by
    rw [cho] at hy hx
    have h1 := List.mem_of_find?_eq_some hy
    rw [List.mem_singleton.1 h1, List.mem_singleton.1 hx]
    exact True.intro
  | m + 1, [], p, y, x, hc, hy, hx, hp => by cases hx
  | m + 1, a :: r, p, y, x, hc, hy, hx, hp => by
    have hr := (List.pairwise_cons.1 hc)
    rw [cho, List.find?_append, List.find?_map] at hy
    rw [cho] at hx
    cases hf : (cho m r).find? (p ∘ fun s => a :: s) with
    | some y' =>
      rw [hf] at hy
      have hy' : y = a :: y' := by simpa using hy.symm
      subst hy'
      rcases List.mem_append.1 hx with h | h
      · obtain ⟨x', hx', rfl⟩ := List.mem_map.1 h
        exact .inr ⟨rfl, find_lex pos m r _ y' x' hr.2 hf hx' hp⟩
      · have hl := cho_len (m + 1) r x h
        cases x with
        | nil => simp at hl
        | cons b t => exact .inl (hr.1 b (cho_mem h b List.mem_cons_self))
    | none =>
      rw [hf] at hy
      have hy' : (cho (m + 1) r).find? p = some y := by simpa using hy
      rcases List.mem_append.1 hx with h | h
      · obtain ⟨x', hx', rfl⟩ := List.mem_map.1 h
        exact absurd hp (List.find?_eq_none.1 hf x' hx')
      · exact find_lex pos (m + 1) r p y x hr.2 hy' h hp
theorem best_usable (l : List TS) (c : List ByteArray) (h : bestR l c ≠ []) : usableR l (bestR l c) = true := by
  unfold bestR at h ⊢
  cases hf : (chAll c).find? (usableR l) with
  | none => rw [hf] at h; exact absurd rfl h
  | some y => exact List.find?_some hf
theorem best_spec (l : List TS) (c : List ByteArray) (m : Nat) (h1 : 1 ≤ m) (h3 : m ≤ 3) (x : List ByteArray) (hx : x ∈ cho m c) (hu : usableR l x = true) : ∃ y m', bestR l c = y ∧ m' ≤ m ∧ 1 ≤ m' ∧ y ∈ cho m' c ∧ (cho m' c).find? (usableR l) = some y := by
  have hno : ∀ k, (cho k c).find? (usableR l) = none → m ≠ k := fun k hk e => by
    subst e
    exact List.find?_eq_none.1 hk x hx hu
  unfold bestR chAll
  rw [List.find?_append, List.find?_append]
  cases hf1 : (cho 1 c).find? (usableR l) with
  | some y => exact ⟨y, 1, rfl, h1, Nat.le_refl _, List.mem_of_find?_eq_some hf1, hf1⟩
  | none =>
    have := hno 1 hf1
    cases hf2 : (cho 2 c).find? (usableR l) with
    | some y => exact ⟨y, 2, rfl, by omega, by omega, List.mem_of_find?_eq_some hf2, hf2⟩
    | none =>
      have := hno 2 hf2
      cases hf3 : (cho 3 c).find? (usableR l) with
      | some y => exact ⟨y, 3, rfl, by omega, by omega, List.mem_of_find?_eq_some hf3, hf3⟩
      | none =>
        have := hno 3 hf3
        omega
/-- Of names of which none stands twice, the candidates are those that all tables have. -/
theorem cand_filter (l : List TS) : ∀ (names acc : List ByteArray), names.Nodup → (∀ n ∈ names, n ∉ acc) → names.foldl (candS l) acc = acc ++ names.filter fun n => !(l.any fun T => lacks T n)
  | [], acc, _, _ => by simp
  | n :: r, acc, hn, ha => by
    have hc := List.nodup_cons.1 hn
    have hin : inB acc n = false := by
      rw [Bool.eq_false_iff]
      exact fun h => ha n List.mem_cons_self (inB_iff.1 h)
    have e : candS l acc n = if (l.any fun T => lacks T n) = true then acc else acc ++ [n] := by
      unfold candS
      rw [if_neg (by rw [hin]; decide)]
    rw [List.foldl_cons, e, List.filter_cons]
    cases hq : l.any fun T => lacks T n with
    | true =>
      rw [if_pos rfl, cand_filter l r acc hc.2 (fun m hm => ha m (List.mem_cons_of_mem _ hm))]; rfl
    | false =>
      rw [if_neg (by decide), cand_filter l r (acc ++ [n]) hc.2 (fun m hm h => by
        rcases List.mem_append.1 h with h | h
        · exact ha m (List.mem_cons_of_mem _ hm) h
        · rw [List.mem_singleton] at h
          subst h
          exact hc.1 hm)]
      simp
theorem usable_has {l : List TS} {x : List ByteArray} (h : usableR l x = true) : ∀ n ∈ x, (l.any fun T => lacks T n) = false := by
  intro n hn
  unfold usableR at h
  rw [Bool.and_eq_true, List.all_eq_true] at h
  rw [Bool.eq_false_iff]
  intro ha
  obtain ⟨T, hT, hl⟩ := List.any_eq_true.1 ha
  have h1 := h.2 T hT
  unfold usable1 at h1
  rw [Bool.and_eq_true] at h1
  have h2 := h1.1
  unfold placesR at h2
  split at h2
  · rename_i hall
    rw [List.all_eq_true] at hall
    have := of_decide_eq_true (hall n hn)
    unfold lacks at hl
    have := of_decide_eq_true hl
    omega
  · cases h2
theorem in_cand {l : List TS} {names x : List ByteArray} (hn : names.Nodup) (hs : x.Sublist names) (hu : usableR l x = true) : x ∈ cho x.length (candR l names) := by
  refine sub_cho ?_ rfl
  unfold candR
  rw [cand_filter l names [] hn (fun n _ h => by cases h), List.nil_append]
  have h1 := hs.filter fun n => !(l.any fun T => lacks T n)
  rwa [List.filter_eq_self.2 (fun n hm => by rw [usable_has hu n hm]; rfl)] at h1
theorem cand_sub {l : List TS} {names : List ByteArray} (hn : names.Nodup) : (candR l names).Sublist names := by
  unfold candR
  rw [cand_filter l names [] hn (fun n _ h => by cases h), List.nil_append]
  exact List.filter_sublist
/-- Where a name stands, of which none stands twice. -/
theorem pos_at {names : List ByteArray} (hn : names.Nodup) {i : Nat} (h : i < names.length) : findI names names[i] = (i : Int) := by
  have h0 := (findI_mem names names[i]).2 (List.getElem_mem h)
  have h1 := findI_get names names[i] h0
  have h2 := findI_le names names[i]
  obtain ⟨j, hj⟩ : ∃ j : Nat, findI names names[i] = j := ⟨(findI names names[i]).toNat, by omega⟩
  rw [hj, Int.toNat_natCast] at h1
  have hjl : j < names.length := by omega
  rw [List.getElem?_eq_getElem hjl] at h1
  have h3 := Option.some.inj h1
  rw [hj]
  rcases Nat.lt_trichotomy i j with h4 | h4 | h4
  · exact absurd h3.symm (List.pairwise_iff_getElem.1 hn i j h hjl h4)
  · rw [h4]
  · exact absurd h3 (List.pairwise_iff_getElem.1 hn j i hjl h h4)
theorem pos_rise {names : List ByteArray} (hn : names.Nodup) : names.Pairwise (fun a b => findI names a < findI names b) := by
  rw [List.pairwise_iff_getElem]
  intro i j hi hj hij
  rw [pos_at hn hi, pos_at hn hj]
  omega
/-- What stands at rising places stands there in that order. -/
theorem rise_sub (names : List ByteArray) : ∀ (C : List Int) (k : Nat), C.Pairwise (· < ·) → (∀ c ∈ C, (k : Int) ≤ c ∧ c < (names.length : Int)) → (C.map fun c => rdOf ByteArray.empty names c).Sublist (names.drop k)
  | [], k, _, _ => by simp
  | c :: r, k, hp, hc => by
    have h1 := List.pairwise_cons.1 hp
    have h2 := hc c List.mem_cons_self
    obtain ⟨j, rfl⟩ : ∃ j : Nat, c = j := ⟨c.toNat, by omega⟩
    have h3 := rise_sub names r (j + 1) h1.2 (fun d hd => ⟨by have := h1.1 d hd; omega, (hc d (List.mem_cons_of_mem _ hd)).2⟩)
    have h4 : (names.drop j).Sublist (names.drop k) := by
      obtain ⟨e, rfl⟩ : ∃ e, j = k + e := ⟨j - k, by omega⟩
      rw [← List.drop_drop]
      exact List.drop_sublist _ _
    refine List.Sublist.trans ?_ h4
    rw [List.map_cons, dropPl (l := names) (t := j) (by omega)]
    exact h3.cons_cons _
theorem map_pos {names : List ByteArray} (hn : names.Nodup) (C : List Int) (h : ∀ c ∈ C, 0 ≤ c ∧ c < (names.length : Int)) : (C.map fun c => rdOf ByteArray.empty names c).map (findI names) = C := by
  rw [List.map_map]
  conv => rhs; rw [← List.map_id C]
  refine List.map_congr_left fun c hc => ?_
  have h2 := h c hc
  obtain ⟨j, rfl⟩ : ∃ j : Nat, c = j := ⟨c.toNat, by omega⟩
  show findI names (rdOf ByteArray.empty names (j : Int)) = (j : Int)
  have hj : j < names.length := by omega
  have e : rdOf ByteArray.empty names (j : Int) = names[j] := by
    unfold rdOf
    rw [show ((j : Int)).toNat = j from rfl, List.getD_eq_getElem?_getD, List.getElem?_eq_getElem hj]; rfl
  rw [e, pos_at hn hj]
end Go.Proofs.Ytbcpaojciephmaa.X
end
section
namespace Go.Proofs.Ytbcpaojciephmaa.X
open Go.RowKit Go.Maps Go.Proofs.YtbcpaojciephmaaW.PrintWords Go.Proofs.YtbcpaojciephmaaW.PrintLast Go.Proofs.YtbcpaojciephmaaW.PrintMore
set_option linter.unusedVariables false
def sizesOk (rows : List (List ByteArray)) : Bool := rows.all fun r => r.all fun s => decide (s.size ≤ maxLen)
end Go.Proofs.Ytbcpaojciephmaa.X
end
section
namespace Go.Proofs.Ytbcpaojciephmaa.X
open Go.RowKit Go.Proofs.YtbcpaojciephmaaW.PrintWords
set_option linter.unusedVariables false
end Go.Proofs.Ytbcpaojciephmaa.X
end
section
namespace Go.Proofs.Ytbcpaojciephmaa.X
open Go.RowKit Go.Maps Go.Proofs.YtbcpaojciephmaaW.PrintWords Go.Proofs.YtbcpaojciephmaaW.PrintLast Go.Proofs.YtbcpaojciephmaaW.PrintMore
set_option linter.unusedVariables false
def sizesAll (l : List TS) : Bool := l.all fun T => sizesOk T.f1
theorem few_ok {l : List TS} (hf : FewP l) (hs : sizesAll l = true) : ∀ T ∈ l, okT1 T = true := by
  intro T hT
  have h1 := hf.2 T hT
  unfold sizesAll at hs
  rw [List.all_eq_true] at hs
  have h2 := hs T hT
  unfold sizesOk at h2
  unfold okT1
  rw [decide_eq_true (show T.f0.length ≤ 1000000 by omega), decide_eq_true (show T.f1.length ≤ 50000 by omega), h2]; rfl
end Go.Proofs.Ytbcpaojciephmaa.X
end
section
namespace Go.Proofs.Ytbcpaojciephmaa.X
open Go.RowKit Go.Proofs.YtbcpaojciephmaaW.PrintWords
set_option linter.unusedVariables false
theorem rdB_get {l : List ByteArray} {i : Nat} (h : i < l.length) : rdOf ByteArray.empty l (i : Int) = l[i] := by
  unfold rdOf
  rw [show ((i : Int)).toNat = i from rfl, List.getD_eq_getElem?_getD, List.getElem?_eq_getElem h]; rfl
section
variable (names : List ByteArray) (C : List Int) (x y : List ByteArray)
theorem least_l4 (hn : names.Nodup) (hnl : names.length ≤ 1000) (i : Nat) (hi : i < y.length) (p : Nat) (hp : p < names.length) (hpy : names[p] = rdOf ByteArray.empty y (i : Int)) (F : Nat) (H : ∀ k', F ≤ k' → tartanlaw11_KeysLeast.j8 k' names C true x y (p : Nat) (i : Nat) = some true) :
    ∀ (d k a : Nat), a + d = p → d + F + 1 ≤ k → tartanlaw11_KeysLeast.l4 k names C true x y (a : Nat) (i : Nat) = some true := by
  intro d
  induction d with
  | zero =>
    intro k a ha hk
    obtain ⟨k, rfl⟩ : ∃ m, k = m + 1 := ⟨k - 1, by omega⟩
    obtain rfl : a = p := by omega
    simp only [tartanlaw11_KeysLeast.l4]
    rw [if_pos (by omega), if_pos (by omega), if_pos (by omega), if_pos (by omega), if_pos (by rw [rdB_get hp, hpy])]
    exact H k (by omega)
  | succ d ih =>
    intro k a ha hk
    obtain ⟨k, rfl⟩ : ∃ m, k = m + 1 := ⟨k - 1, by omega⟩
    have hal : a < names.length := by omega
    simp only [tartanlaw11_KeysLeast.l4]
    rw [if_pos (by omega), if_pos (by omega), if_pos (by omega), if_pos (by omega), if_neg (fun e => by
      have e2 := bytes_eq.1 e
      rw [rdB_get hal, ← hpy] at e2
      exact List.pairwise_iff_getElem.1 hn a p hal hp (by omega) e2), wrap_upR _ (by omega)]
    exact ih k (a + 1) (by omega) (by omega)
set_option maxRecDepth 100000 in
theorem least_l3 (hn : names.Nodup) (hnl : names.length ≤ 1000) (hC : C.length = x.length) (hy : y.length = x.length) (hxl : x.length ≤ 100) (hys : y.Sublist names) :
    ∀ (d k i a : Nat), i + d = x.length → d * 2000 + 1 ≤ k → (i < x.length → (a : Int) ≤ findI names (rdOf ByteArray.empty y (i : Int))) → LexLe ((y.drop i).map (findI names)) (C.drop i) → tartanlaw11_KeysLeast.l3 k names C true x y (a : Nat) (i : Nat) = some true := by
  have hrise := (pos_rise hn).sublist hys
  intro d
  induction d with
  | zero =>
    intro k i a hi hk ha hl
    obtain ⟨k, rfl⟩ : ∃ m, k = m + 1 := ⟨k - 1, by omega⟩
    simp only [tartanlaw11_KeysLeast.l3]
    rw [if_neg (by omega)]
  | succ d ih =>
    intro k i a hi hk ha hl
    obtain ⟨k, rfl⟩ : ∃ m, k = m + 1 := ⟨k - 1, by omega⟩
    have hiy : i < y.length := by omega
    have hm : y[i] ∈ names := hys.subset (List.getElem_mem hiy)
    obtain ⟨p, hp, hpe⟩ := List.getElem_of_mem hm
    have hpos : findI names (rdOf ByteArray.empty y (i : Int)) = (p : Int) := by rw [rdB_get hiy, ← hpe, pos_at hn hp]
    have ha' := ha (by omega)
    rw [hpos] at ha'
    rw [dropPl (l := y) (t := i) hiy, dropR (l := C) (t := i) (by omega), List.map_cons, hpos] at hl
    simp only [tartanlaw11_KeysLeast.l3]
    rw [if_pos (by omega)]
    refine least_l4 names C x y hn hnl i hiy p hp (by rw [rdB_get hiy, hpe]) (d * 2000 + 2) (fun k' hk' => ?_) (p - a) k a (by omega) (by omega)
    obtain ⟨k', rfl⟩ : ∃ m, k' = m + 1 := ⟨k' - 1, by omega⟩
    simp only [tartanlaw11_KeysLeast.j8]
    rw [if_neg (by omega), if_pos (by omega), if_pos (by omega)]
    rcases hl with h | ⟨h, hl⟩
    · rw [if_neg (by omega), if_pos trivial, decide_eq_true h]
    · rw [if_pos h, wrap_upR _ (by omega)]
      refine ih k' (i + 1) p (by omega) (by omega) (fun h2 => ?_) hl
      have h3 := List.pairwise_iff_getElem.1 hrise i (i + 1) hiy (by omega) (by omega)
      rw [rdB_get (show i + 1 < y.length by omega)]
      rw [← hpe, pos_at hn hp] at h3
      omega
end
section
variable (l : List TS) (names : List ByteArray) (C : List Int)
abbrev chX : List ByteArray := C.map fun c => rdOf ByteArray.empty names c
theorem least_end (hf : FewP l) (hok : ∀ T ∈ l, okT1 T = true) (hnl : names.length ≤ 12) (hn : names.Nodup) (hC1 : 1 ≤ C.length) (hC3 : C.length ≤ 3) (hr : C.Pairwise (· < ·)) (hrg : ∀ c ∈ C, 0 ≤ c ∧ c < (names.length : Int)) {k : Nat} (hk : 20000 ≤ k) :
    tartanlaw11_KeysLeast.l2 k l names C true (chX names C) (C.length : Nat) = some true := by
  obtain ⟨k, rfl⟩ : ∃ m, k = m + 3 := ⟨k - 3, by omega⟩
  have hl4 := hf.1
  have hxl : (chX names C).length = C.length := List.length_map _
  have hoks : ∀ z : List ByteArray, z.length ≤ 100 → keys_Usable.f l z = some (usableR l z) := fun z hz => by
    unfold keys_Usable.f okTs
    rw [decide_eq_true (show l.length ≤ 100000 by omega), decide_eq_true (show z.length ≤ 100000 by omega), List.all_eq_true.2 hok]; rfl
  have hbl : (inferR l names).length ≤ 3 := by
    unfold inferR bestR
    cases hfd : (chAll (candR l names)).find? (usableR l) with
    | none => exact Nat.zero_le _
    | some z =>
      have hm := List.mem_of_find?_eq_some hfd
      unfold chAll at hm
      show z.length ≤ _
      rcases List.mem_append.1 hm with h | h
      · rw [cho_len _ _ _ h]; omega
      · rcases List.mem_append.1 h with h | h
        · rw [cho_len _ _ _ h]; omega
        · rw [cho_len _ _ _ h]; omega
  have hinf : keys_Infer.f l names = some (inferR l names) := by
    unfold keys_Infer.f okI
    rw [decide_eq_true (show l.length ≤ 100000 by omega), decide_eq_true (show names.length ≤ 1000 by omega), List.all_eq_true.2 hok]; rfl
  have main : tartanlaw11_KeysLeast.j4 (k + 2) l names C true (chX names C) (inferR l names) false = some true := by
    simp only [tartanlaw11_KeysLeast.j4]
    rw [if_neg (by decide), hoks _ (by omega), Option.bind_some]
    cases hu : usableR l (chX names C) with
    | false => rw [if_neg (by decide)]
    | true =>
      rw [if_pos rfl]
      have hsub : (chX names C).Sublist names := by
        have := rise_sub names C 0 hr hrg
        rwa [List.drop_zero] at this
      have hxc := in_cand hn hsub hu
      rw [hxl] at hxc
      obtain ⟨y, m', hb, hm1, hm2, hym, hyf⟩ := best_spec l (candR l names) C.length hC1 hC3 _ hxc hu
      have hinf2 : inferR l names = y := hb
      have hyl := cho_len m' _ y hym
      rw [hinf2, if_neg (by omega), decide_eq_false (by omega)]
      simp only [tartanlaw11_KeysLeast.j5]
      rw [if_neg (by decide)]
      by_cases hlt : (y.length : Int) < ((chX names C).length : Int)
      · rw [if_pos hlt]
      · rw [if_neg hlt]
        obtain rfl : m' = C.length := by omega
        have hys : y.Sublist names := (cho_sub _ _ _ hym).trans (cand_sub hn)
        have hlex := find_lex (findI names) C.length (candR l names) (usableR l) y (chX names C) ((pos_rise hn).sublist (cand_sub hn)) hyf hxc hu
        rw [map_pos hn C hrg] at hlex
        refine least_l3 names C (chX names C) y hn (by omega) hxl.symm (by omega) (by omega) hys (chX names C).length k 0 0 (by omega) (by omega) (fun h0 => ?_) (by rw [List.drop_zero, List.drop_zero]; exact hlex)
        have hy0 : 0 < y.length := by omega
        rw [rdB_get hy0]
        exact (findI_mem names _).2 (hys.subset (List.getElem_mem hy0))
  simp only [tartanlaw11_KeysLeast.l2]
  rw [if_neg (by omega), hinf, Option.bind_some]
  by_cases h0 : ((inferR l names).length : Int) > 0
  · rw [if_pos h0, hoks _ (by omega), Option.bind_some]
    have hbu : usableR l (inferR l names) = true := best_usable l _ (fun e => by
      have : (inferR l names).length = 0 := by unfold inferR; rw [e]; rfl
      omega)
    rw [hbu]
    exact main
  · rw [if_neg h0]
    exact main
theorem least_l2 (hf : FewP l) (hok : ∀ T ∈ l, okT1 T = true) (hnl : names.length ≤ 12) (hn : names.Nodup) (hC1 : 1 ≤ C.length) (hC3 : C.length ≤ 3) :
    ∀ (d k i : Nat), i + d = C.length → d + 20001 ≤ k → (C.take i).Pairwise (· < ·) → (∀ c ∈ C.take i, 0 ≤ c ∧ c < (names.length : Int)) → (0 < i → ∀ c ∈ C.take i, c ≤ rd C ((i : Int) - 1)) → tartanlaw11_KeysLeast.l2 k l names C true ((C.take i).map fun c => rdOf ByteArray.empty names c) (i : Nat) = some true := by
  intro d
  induction d with
  | zero =>
    intro k i hi hk hp hr hl
    obtain rfl : i = C.length := by omega
    rw [List.take_length] at hp hr ⊢
    exact least_end l names C hf hok hnl hn hC1 hC3 hp hr (by omega)
  | succ d ih =>
    intro k i hi hk hp hr hl
    obtain ⟨k, rfl⟩ : ∃ m, k = m + 1 := ⟨k - 1, by omega⟩
    have ht : C.take (i + 1) = C.take i ++ [rd C (i : Int)] := by rw [List.take_succ_eq_append_getElem (by omega), rd_getR (by omega)]
    have next : ∀ (h0 : 0 ≤ rd C (i : Int)) (h1 : rd C (i : Int) < (names.length : Int)) (h2 : ∀ c ∈ C.take i, c < rd C (i : Int)), tartanlaw11_KeysLeast.l2 k l names C true (((C.take i).map fun c => rdOf ByteArray.empty names c) ++ [rdOf ByteArray.empty names (rd C (i : Int))]) (wrap64 ((i : Int) + 1)) = some true := by
      intro h0 h1 h2
      rw [wrap_upR _ (by omega)]
      have := ih k (i + 1) (by omega) (by omega) (by
        rw [ht]
        exact List.pairwise_append.2 ⟨hp, List.pairwise_singleton _ _, fun a ha b hb => by rw [List.mem_singleton.1 hb]; exact h2 a ha⟩) (by
        rw [ht]
        intro c hc
        rcases List.mem_append.1 hc with h | h
        · exact hr c h
        · rw [List.mem_singleton.1 h]; exact ⟨h0, h1⟩) (by
        intro _
        rw [ht, show (((i + 1 : Nat) : Int) - 1) = (i : Int) by omega]
        intro c hc
        rcases List.mem_append.1 hc with h | h
        · exact Int.le_of_lt (h2 c h)
        · rw [List.mem_singleton.1 h]; exact Int.le_refl _)
      rw [ht, List.map_append] at this
      exact this
    simp only [tartanlaw11_KeysLeast.l2]
    rw [if_pos (by omega), if_pos (by omega)]
    by_cases g0 : rd C (i : Int) < 0
    · rw [if_pos g0]
    · rw [if_neg g0]
      by_cases g1 : rd C (i : Int) ≥ (names.length : Int)
      · rw [if_pos g1]
      · rw [if_neg g1]
        have hxl : ((C.take i).map fun c => rdOf ByteArray.empty names c).length < 8796093022208 := by rw [List.length_map, List.length_take]; omega
        by_cases gi : (i : Int) > 0
        · have e1 : wrap64 ((i : Int) - 1) = (i : Int) - 1 := by unfold wrap64; omega
          rw [if_pos gi, e1, if_pos (by omega), if_pos (by omega)]
          by_cases g2 : rd C (i : Int) ≤ rd C ((i : Int) - 1)
          · rw [if_pos g2]
          · rw [if_neg g2, if_pos (by omega), if_pos (by omega), if_pos hxl]
            exact next (by omega) (by omega) (fun c hc => by have := hl (by omega) c hc; omega)
        · rw [if_neg gi, if_pos (by omega), if_pos (by omega), if_pos hxl]
          obtain rfl : i = 0 := by omega
          exact next (by omega) (by omega) (fun c hc => by simp at hc)
theorem least_l1 (hnl : names.length ≤ 12) (i : Nat) (hi : i < names.length) (F : Nat) (H : (∀ b, b < i → names[i]? ≠ names[b]?) → ∀ k', F ≤ k' → tartanlaw11_KeysLeast.l0 k' l names C true ((i + 1 : Nat) : Int) = some true) :
    ∀ (d k j : Nat), j + d = i → d + F + 1 ≤ k → (∀ b, b < j → names[i]? ≠ names[b]?) → tartanlaw11_KeysLeast.l1 k l names C true (i : Nat) (j : Nat) = some true := by
  intro d
  induction d with
  | zero =>
    intro k j hj hk hno
    obtain ⟨k, rfl⟩ : ∃ m, k = m + 1 := ⟨k - 1, by omega⟩
    obtain rfl : j = i := by omega
    simp only [tartanlaw11_KeysLeast.l1]
    rw [if_neg (by omega), wrap_upR _ (by omega)]
    exact H hno k (by omega)
  | succ d ih =>
    intro k j hj hk hno
    obtain ⟨k, rfl⟩ : ∃ m, k = m + 1 := ⟨k - 1, by omega⟩
    have hjl : j < names.length := by omega
    simp only [tartanlaw11_KeysLeast.l1]
    rw [if_pos (by omega), if_pos (by omega), if_pos (by omega), if_pos (by omega), if_pos (by omega)]
    by_cases e : (rdOf ByteArray.empty names (i : Int)).toList = (rdOf ByteArray.empty names (j : Int)).toList
    · rw [if_pos e]
    · rw [if_neg e, wrap_upR _ (by omega)]
      refine ih k (j + 1) (by omega) (by omega) (fun b hb => ?_)
      rcases Nat.lt_or_ge b j with h | h
      · exact hno b h
      · obtain rfl : b = j := by omega
        rw [List.getElem?_eq_getElem hi, List.getElem?_eq_getElem hjl]
        intro e2
        exact e (bytes_eq.2 (by rw [rdB_get hi, rdB_get hjl]; exact Option.some.inj e2))
set_option maxRecDepth 100000 in
theorem least_l0 (hf : FewP l) (hok : ∀ T ∈ l, okT1 T = true) (hnl : names.length ≤ 12) (hC1 : 1 ≤ C.length) (hC3 : C.length ≤ 3) :
    ∀ (d k i : Nat), i + d = names.length → d * 100 + 30000 ≤ k → (∀ a b : Nat, a < i → b < a → names[a]? ≠ names[b]?) → tartanlaw11_KeysLeast.l0 k l names C true (i : Nat) = some true := by
  intro d
  induction d with
  | zero =>
    intro k i hi hk hno
    obtain ⟨k, rfl⟩ : ∃ m, k = m + 1 := ⟨k - 1, by omega⟩
    have hn : names.Nodup := by
      unfold List.Nodup
      rw [List.pairwise_iff_getElem]
      intro a b ha hb hab e
      refine hno b a (by omega) hab ?_
      rw [List.getElem?_eq_getElem ha, List.getElem?_eq_getElem hb, e]
    simp only [tartanlaw11_KeysLeast.l0]
    rw [if_neg (by omega)]
    exact least_l2 l names C hf hok hnl hn hC1 hC3 C.length k 0 (by omega) (by omega) (by simp) (fun c hc => by simp at hc) (fun h => by omega)
  | succ d ih =>
    intro k i hi hk hno
    obtain ⟨k, rfl⟩ : ∃ m, k = m + 1 := ⟨k - 1, by omega⟩
    simp only [tartanlaw11_KeysLeast.l0]
    rw [if_pos (by omega)]
    refine least_l1 l names C hnl i (by omega) (d * 100 + 30000) (fun h k' hk' => ih k' (i + 1) (by omega) hk' (fun a b ha hb => ?_)) i k 0 (by omega) (by omega) (fun b hb => by omega)
    rcases Nat.lt_or_ge a i with h' | h'
    · exact hno a b h' hb
    · obtain rfl : a = i := by omega
      exact h b hb
end
set_option maxRecDepth 100000 in
theorem pure_KeysLeast : ∀ (x0 : List (S25)) (x1 : List ByteArray) (x2 : List Int), okT29 x0 → okT22 x1 → okT26 x2 → ∃ k, tartanlaw11_KeysLeast.f k x0 x1 x2 = some true := by
  intro x0 x1 x2 o0 o1 o2
  obtain ⟨k, hk⟩ : ∃ k : Nat, 100000 ≤ k := ⟨100000, Nat.le_refl _⟩
  refine ⟨k + 1, ?_⟩
  have hsz : sizesAll x0 = true := by
    unfold sizesAll
    rw [List.all_eq_true]
    intro T hT
    unfold sizesOk
    rw [List.all_eq_true]
    intro y hy
    rw [List.all_eq_true]
    intro s hs
    exact decide_eq_true (((o0.2 T hT).2.2 y hy).2 s hs)
  unfold tartanlaw11_KeysLeast.f tartanlaw11_works.f
  rw [Option.bind_some, if_pos rfl]
  obtain ⟨b, e, hb⟩ := rfew_some x0 x1 (k := k + 1) (by omega)
  rw [e, Option.bind_some]
  cases b with
  | false => rw [if_neg (by decide)]; simp [tartanlaw11_KeysLeast.j0]
  | true =>
    obtain ⟨hf, hnl⟩ := hb rfl
    rw [if_pos rfl]
    by_cases h1 : (x2.length : Int) < 1
    · rw [if_pos h1]; simp [tartanlaw11_KeysLeast.j0]
    · rw [if_neg h1]
      by_cases h3 : (x2.length : Int) > 3
      · rw [decide_eq_true h3]; simp [tartanlaw11_KeysLeast.j0]
      · rw [decide_eq_false h3]
        simp only [tartanlaw11_KeysLeast.j0]
        rw [if_neg (by decide)]
        exact least_l0 x0 x1 x2 hf (few_ok hf hsz) hnl (by omega) (by omega) x1.length k 0 (by omega) (by omega) (fun a b h => by omega)
end Go.Proofs.Ytbcpaojciephmaa.X
end
