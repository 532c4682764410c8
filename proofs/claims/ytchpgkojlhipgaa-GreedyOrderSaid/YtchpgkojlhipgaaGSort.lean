/- slices.SortFunc at rows that the program has built itself: the row in order, nothing else turned. Over the shelf's contract. -/
import Derived.Test.YtchpgkojlhipgaaGShelf
import Derived.Test.YtchpgkojlhipgaaGCmp
namespace Go.Proofs.Ytchpgkojlhipgaa.X
open Go.RowKit Go.Sort Go.Proofs.YtchpgkojlhipgaaW.PrintWords
set_option linter.unusedVariables false

theorem cells_len {α : Type} (enc : α → List Value) (k : Nat) (hk : ∀ x, (enc x).length = k) : ∀ l : List α, (l.flatMap enc).length = l.length * k
  | [] => by simp
  | x :: l => by rw [List.flatMap_cons, List.length_append, cells_len enc k hk l, hk, List.length_cons, Nat.succ_mul]; omega
section
variable {α : Type} [Inhabited α] (enc : α → List Value) (k : Nat)
theorem cells_get (hk : ∀ x, (enc x).length = k) (k0 : 0 < k) : ∀ (l : List α) (t : Nat), t < l.length * k → (l.flatMap enc)[t]? = some ((enc (l.toArray[t / k]!))[t % k]!)
  | [], t, h => by simp at h
  | x :: l, t, h => by
    rw [List.flatMap_cons]
    rcases Nat.lt_or_ge t k with h1 | h1
    · rw [List.getElem?_append_left (by rw [hk]; exact h1), Nat.div_eq_of_lt h1, Nat.mod_eq_of_lt h1]
      have h2 : t < (enc x).length := by rw [hk]; exact h1
      rw [List.getElem?_eq_getElem h2]
      simp [h2]
    · obtain ⟨s, rfl⟩ : ∃ s, t = s + k := ⟨t - k, by omega⟩
      have hs : s < l.length * k := by
        rw [List.length_cons, Nat.succ_mul] at h; omega
      have ih := cells_get hk k0 l s hs
      rw [List.getElem?_append_right (by rw [hk]; omega), hk, Nat.add_sub_cancel, ih, Nat.add_div_right _ k0, Nat.add_mod_right]
      have hd : s / k < l.length := (Nat.div_lt_iff_lt_mul k0).2 hs
      simp [hd]
theorem flat_cells (hk : ∀ x, (enc x).length = k) (k0 : 0 < k) (l : List α) : (flatK enc k l.toArray).toList = l.flatMap enc := by
  refine List.ext_getElem? fun t => ?_
  rcases Nat.lt_or_ge t (l.length * k) with h | h
  · rw [cells_get enc k hk k0 l t h]
    have h2 := get_flatK enc k l.toArray t (by simpa using h)
    have h3 : t < (flatK enc k l.toArray).size := by rw [size_flatK]; simpa using h
    rw [← h2, Array.getElem?_toList, Array.getElem?_eq_getElem h3, getElem!_pos _ t h3]
  · rw [List.getElem?_eq_none (by rw [Array.length_toList, size_flatK]; simpa using h), List.getElem?_eq_none (by rw [cells_len enc k hk]; exact h)]
theorem own_holds (hk : ∀ x, (enc x).length = k) (k0 : 0 < k) {W : World} {g cap : Nat} {cur : Array Value} {e : TypeId} {l : List α} (hg : W.heap[g]? = some (.cells cur e (0, 0))) (hc : l.length ≤ cap) (hs : cur.size = cap * k) (ht : cur.toList.take (l.length * k) = l.flatMap enc) :
    HoldsK enc k W g 0 l.toArray := by
  intro j hj
  rw [size_flatK] at hj
  have hj' : j < l.length * k := by simpa using hj
  have hjc : j < cur.size := by
    have := Nat.mul_le_mul_right k hc
    omega
  have h2 := get_flatK enc k l.toArray j hj
  have h1 := cells_get enc k hk k0 l j hj'
  rw [← ht, List.getElem?_take_of_lt hj', Array.getElem?_toList, Array.getElem?_eq_getElem hjc] at h1
  refine ⟨?_, by simp [World.frozen?, hg]⟩
  rw [h2, Nat.zero_add]
  simp only [World.cell?, hg]
  rw [Array.getElem?_eq_getElem hjc]
  simpa using h1
theorem put_get (F cur : Array Value) (hF : F.size ≤ cur.size) : (putCells id 0 F cur).size = cur.size ∧ (putCells id 0 F cur).toList.take F.size = F.toList := by
  refine ⟨by simp [putCells], List.ext_getElem? fun t => ?_⟩
  rcases Nat.lt_or_ge t F.size with h | h
  · rw [List.getElem?_take_of_lt h, Array.getElem?_toList, Array.getElem?_toList, Array.getElem?_eq_getElem h]
    unfold putCells
    rw [Array.getElem?_mapIdx, Array.getElem?_eq_getElem (by omega)]
    simp [h]
  · rw [List.getElem?_eq_none (by rw [List.length_take]; omega), List.getElem?_eq_none (by simpa using h)]
/-- The row, put in order. -/
theorem own_sorted (hk : ∀ x, (enc x).length = k) (k0 : 0 < k) {W : World} {base g cap : Nat} {cur : Array Value} {e : TypeId} {l l' : List α} {n : Nat} {os : Array Obj} (hg : W.heap[g]? = some (.cells cur e (0, 0))) (hbg : base ≤ g) (hc : l.length ≤ cap) (hm : cap ≤ maxLen) (hs : cur.size = cap * k) (hl : l'.length = l.length) :
    (sortWorldK enc k W g 0 n l'.toArray os).ownsRow base e k (.slice (some ⟨g, 0, none⟩) l.length cap) l'.length (l'.flatMap enc) ∧ Below base W (sortWorldK enc k W g 0 n l'.toArray os) := by
  have hlt := blk_lt hg
  have hsz : (flatK enc k l'.toArray).size ≤ cur.size := by
    rw [size_flatK, hs]
    exact Nat.mul_le_mul_right k (by simpa [hl] using hc)
  obtain ⟨p1, p2⟩ := put_get (flatK enc k l'.toArray) cur hsz
  have hh : (sortWorldK enc k W g 0 n l'.toArray os).heap[g]? = some (.cells (putCells id 0 (flatK enc k l'.toArray) cur) e (0, 0)) := by
    show ((W.heap.modify g _) ++ os)[g]? = _
    rw [Array.getElem?_append_left (by rw [Array.size_modify]; exact hlt)]
    obtain ⟨h1, h2⟩ := Array.getElem?_eq_some_iff.1 hg
    rw [Array.getElem?_eq_getElem (by rw [Array.size_modify]; exact hlt), Array.getElem_modify_self, h2]
    rfl
  constructor
  · refine ⟨by rw [cells_len enc k hk], .inr ⟨g, cap, _, by rw [hl], hbg, hh, by omega, hm, by rw [p1, hs], ?_⟩⟩
    rw [size_flatK, flat_cells enc k hk k0] at p2
    simpa using p2
  · refine ⟨rfl, rfl, rfl, ?_, fun j hj => ?_⟩
    · show W.heap.size ≤ ((W.heap.modify g _) ++ os).size
      simp
    · show ((W.heap.modify g _) ++ os)[j]? = _
      rcases Nat.lt_or_ge j W.heap.size with h | h
      · rw [Array.getElem?_append_left (by rw [Array.size_modify]; exact h), Array.getElem?_modify, if_neg (by omega)]
      · omega
end

/- Insertion, in an order. -/
section
variable {α : Type} (le : α → α → Bool)
def insB (x : α) : List α → List α
  | [] => [x]
  | y :: t => if le x y = true then x :: y :: t else y :: insB x t
def isort (l : List α) : List α := l.foldr (insB le) []
theorem perm_insB (x : α) : ∀ l : List α, (insB le x l).Perm (x :: l)
  | [] => List.Perm.refl _
  | y :: t => by
    unfold insB
    split
    · exact List.Perm.refl _
    · exact ((perm_insB x t).cons y).trans (List.Perm.swap x y t)
theorem perm_isort : ∀ l : List α, (isort le l).Perm l
  | [] => List.Perm.refl _
  | x :: l => (perm_insB le x _).trans ((perm_isort l).cons x)
theorem sort_insB (tot : ∀ a b, (le a b || le b a) = true) (tr : ∀ a b c, le a b = true → le b c = true → le a c = true) (x : α) : ∀ l : List α, l.Pairwise (fun a b => le a b = true) → (insB le x l).Pairwise (fun a b => le a b = true)
  | [], _ => List.pairwise_singleton _ _
  | y :: t, h => by
    have h' := List.pairwise_cons.1 h
    unfold insB
    split
    · rename_i hxy
      refine List.pairwise_cons.2 ⟨fun z hz => ?_, h⟩
      rcases List.mem_cons.1 hz with rfl | hz
      · exact hxy
      · exact tr _ _ _ hxy (h'.1 z hz)
    · rename_i hxy
      have hyx : le y x = true := by
        have := tot x y
        rw [Bool.not_eq_true] at hxy
        rw [hxy] at this
        simpa using this
      refine List.pairwise_cons.2 ⟨fun z hz => ?_, sort_insB tot tr x t h'.2⟩
      rcases List.mem_cons.1 ((perm_insB le x t).mem_iff.1 hz) with rfl | hz
      · exact hyx
      · exact h'.1 z hz
theorem sort_isort (tot : ∀ a b, (le a b || le b a) = true) (tr : ∀ a b c, le a b = true → le b c = true → le a c = true) : ∀ l : List α, (isort le l).Pairwise (fun a b => le a b = true)
  | [] => List.Pairwise.nil
  | x :: l => sort_insB le tot tr x _ (sort_isort tot tr l)
theorem sorted_unique (anti : ∀ a b, le a b = true → le b a = true → a = b) : ∀ (a b : List α), a.Perm b → a.Pairwise (fun x y => le x y = true) → b.Pairwise (fun x y => le x y = true) → a = b
  | [], b, hp, _, _ => (List.Perm.nil_eq hp)
  | x :: a, [], hp, _, _ => absurd hp.length_eq (by simp)
  | x :: a, y :: b, hp, ha, hb => by
    have ha' := List.pairwise_cons.1 ha
    have hb' := List.pairwise_cons.1 hb
    have hxy : x = y := by
      rcases List.mem_cons.1 (hp.mem_iff.1 List.mem_cons_self) with e | h1
      · exact e
      · rcases List.mem_cons.1 (hp.mem_iff.2 List.mem_cons_self) with e | h2
        · exact e.symm
        · exact anti _ _ (ha'.1 _ h2) (hb'.1 _ h1)
    subst hxy
    rw [sorted_unique anti a b (List.Perm.cons_inv hp) ha'.2 hb'.2]
theorem merge_isort (tot : ∀ a b, (le a b || le b a) = true) (tr : ∀ a b c, le a b = true → le b c = true → le a c = true) (anti : ∀ a b, le a b = true → le b a = true → a = b) (l : List α) : l.mergeSort le = isort le l :=
  sorted_unique le anti _ _ ((List.mergeSort_perm l le).trans (perm_isort le l).symm) (List.pairwise_mergeSort tr tot l) (sort_isort le tot tr l)
end

/-! Choices. -/
instance : Inhabited SC := ⟨z24⟩
def encC (x : SC) : List Value := [.int .i64 x.f0, .int .i64 x.f1, .int .i64 x.f2]
abbrev cellsC (l : List SC) : List Value := l.flatMap encC
theorem cmp3_lt {a b : Int} : cmp3 a b < 0 ↔ a < b := by unfold cmp3; split <;> (try split) <;> omega
theorem cmp3_eq {a b : Int} : cmp3 a b = 0 ↔ a = b := by unfold cmp3; split <;> (try split) <;> omega
/-- Which one is better. -/
def Bet (x y : SC) : Prop := y.f2 < x.f2 ∨ y.f2 = x.f2 ∧ (x.f0 < y.f0 ∨ x.f0 = y.f0 ∧ x.f1 < y.f1)
instance (x y : SC) : Decidable (Bet x y) := by unfold Bet; exact inferInstance
theorem cmpR_lt {x y : SC} : cmpR x y < 0 ↔ Bet x y := by
  unfold cmpR Bet
  by_cases h2 : cmp3 y.f2 x.f2 = 0
  · rw [if_pos h2]
    have e2 := cmp3_eq.1 h2
    by_cases h0 : cmp3 x.f0 y.f0 = 0
    · rw [if_pos h0, cmp3_lt]
      have e0 := cmp3_eq.1 h0
      omega
    · rw [if_neg h0, cmp3_lt]
      have e0 : ¬ x.f0 = y.f0 := fun e => h0 (cmp3_eq.2 e)
      omega
  · rw [if_neg h2, cmp3_lt]
    have e2 : ¬ y.f2 = x.f2 := fun e => h2 (cmp3_eq.2 e)
    omega
theorem lt_bet (x y : SC) : Go.Proofs.ltOf cmpR x y = decide (Bet x y) := by
  unfold Go.Proofs.ltOf
  rw [Bool.eq_iff_iff, decide_eq_true_eq, decide_eq_true_eq, cmpR_lt]
theorem bet_irr (x : SC) : ¬ Bet x x := by unfold Bet; omega
theorem bet_trans {x y z : SC} (h1 : Bet x y) (h2 : Bet y z) : Bet x z := by unfold Bet at *; omega
theorem bet_tot {x y : SC} (h1 : ¬ Bet x y) (h2 : ¬ Bet y x) : x = y := by
  unfold Bet at *
  have e0 : x.f0 = y.f0 := by omega
  have e1 : x.f1 = y.f1 := by omega
  have e2 : x.f2 = y.f2 := by omega
  cases x; cases y; simp_all
theorem bet_asym {x y : SC} (h : Bet x y) : ¬ Bet y x := fun h2 => bet_irr x (bet_trans h h2)
theorem swoC : SWO (Go.Proofs.ltOf cmpR) where
  irrefl x := by rw [lt_bet]; exact decide_eq_false (bet_irr x)
  trans x y z h1 h2 := by rw [lt_bet] at *; exact decide_eq_true (bet_trans (of_decide_eq_true h1) (of_decide_eq_true h2))
  ntrans x y z h1 h2 := by
    rw [lt_bet] at *
    have h1' := of_decide_eq_false h1
    have h2' := of_decide_eq_false h2
    refine decide_eq_false fun h3 => ?_
    unfold Bet at *
    omega
def leC (x y : SC) : Bool := !decide (Bet y x)
def sortC (l : List SC) : List SC := isort leC l
theorem leC_tot (a b : SC) : (leC a b || leC b a) = true := by
  unfold leC
  by_cases h : Bet b a
  · have := bet_asym h; simp [this]
  · simp [h]
theorem leC_trans (a b c : SC) (h1 : leC a b = true) (h2 : leC b c = true) : leC a c = true := by
  unfold leC at *
  simp only [Bool.not_eq_true', decide_eq_false_iff_not] at *
  intro h3
  unfold Bet at *
  omega
theorem leC_anti (a b : SC) (h1 : leC a b = true) (h2 : leC b a = true) : a = b := by
  unfold leC at *
  simp only [Bool.not_eq_true', decide_eq_false_iff_not] at *
  exact bet_tot h2 h1
theorem sortC_len (l : List SC) : (sortC l).length = l.length := (perm_isort leC l).length_eq
theorem merge_sortC (l : List SC) : (l.mergeSort fun x y => !Go.Proofs.ltOf cmpR y x) = sortC l := by
  have e : (fun x y : SC => !Go.Proofs.ltOf cmpR y x) = leC := by funext x y; unfold leC; rw [lt_bet]
  rw [e]
  exact merge_isort leC leC_tot leC_trans leC_anti l
theorem sortC_calls (l : List SC) (v : Value) (base : Nat) (W : World) (ho : W.ownsRow base 58 3 v l.length (cellsC l)) (hl : l.length ≤ 100000) :
    Calls Try.prog 33 #[v, .func (.func 34) #[] #[]] W fun e w' => e = .returned (.tuple #[]) ∧ w'.ownsRow base 58 3 v l.length (cellsC (sortC l)) ∧ Below base W w' := by
  rcases ho.2 with ⟨rfl, h0⟩ | ⟨g, cap, cur, rfl, hbg, hg, hc, hm, hs, ht⟩
  · have hS := AnyF.slices_SortFunc_none (P := Try.prog) (ρ := Try.sortC_ren) { Try.sortC with } none 0 (.func (.func 34) #[] #[]) W
    refine hS.mono ?_
    rintro e w' ⟨rfl, rfl⟩
    obtain rfl := List.eq_nil_of_length_eq_zero h0
    exact ⟨rfl, ho, Below.refl _ _⟩
  · have eg : ∀ args w, (callFunc 34 args).run Try.prog w = .ok (.enter 34 args) w := enters_of Try.func34 (by kernel_rfl) rfl
    have hH := own_holds encC 3 (fun _ => rfl) (by decide) hg hc hs ht
    have hS := AnyQ.slices_SortFunc_total Try.sortC 3 Try.isAgg58 Try.sizeOf58 encC (fun _ => rfl) (fun x v hv => by simp [encC] at hv; rcases hv with rfl | rfl | rfl <;> rfl) cmpR swoC 34 #[] g 0 cap l.toArray W eg
      (fun _ _ _ _ x y => compare_calls x y _) hH (blk_lt hg) (by simp; omega) (fun x y h1 h2 => by rw [lt_bet] at *; exact bet_tot (of_decide_eq_false h1) (of_decide_eq_false h2))
    change Calls Try.prog 33 #[.slice (some ⟨g, 0, none⟩) l.length cap, .func (.func 34) #[] #[]] W _ at hS
    refine hS.mono ?_
    rintro e w' ⟨rfl, n, os, rfl⟩
    have hms : l.toArray.toList.mergeSort (fun x y => !Go.Proofs.ltOf cmpR y x) = sortC l := merge_sortC l
    rw [hms]
    have hl' := sortC_len l
    obtain ⟨q1, q2⟩ := own_sorted encC 3 (fun _ => rfl) (by decide) (base := base) (n := n) (os := os) hg hbg hc hm hs hl'
    rw [hl'] at q1
    exact ⟨rfl, q1, q2⟩
end Go.Proofs.Ytchpgkojlhipgaa.X
