/- The texts that the law ColsMoved wants, part 5 of 6: what is kept of them. -/
import Derived.Shelf.SlGeneric
import Derived.Shelf.SlSortCmp.NoneTotal
import Derived.Ground.SlsfProg
import Derived.Test.YtoefeboikkhdkaaProg
import Derived.WalkKit
import Derived.WalkSpells
import Derived.Outline
import Derived.OneCell
import Derived.Laws.EntriesVeiled
import Derived.Deep.RegionHeld3
import Derived.Deep.QuietTactic
import Derived.BigQuiet
import Derived.Test.YtoefeboikkhdkaaCColsMoved4
section
namespace Go.Proofs
open Go.Shelf
def Try.sortC_ren : Go.Shelf.Ren := ⟨fun | 6 => 61 | 15 => 88 | 14 => 87 | 28 => 104 | 29 => 105 | 20 => 96 | 21 => 97 | 22 => 98 | 23 => 99 | 24 => 100 | 25 => 101 | 26 => 102 | 27 => 103 | 46 => 116 | 47 => 117 | 48 => 118 | 49 => 119 | 50 => 120 | 57 => 125 | n => n, fun | 22 => 90 | 24 => 91 | 25 => 93 | 3 => 3 | 39 => 117 | 0 => 0 | 53 => 130 | 55 => 132 | 4 => 4 | 46 => 123 | 45 => 122 | 50 => 127 | 5 => 5 | 9 => 9 | 66 => 140 | 70 => 144 | 76 => 148 | 77 => 149 | n => n, fun | n => n⟩
theorem Try.sortC : Go.Proofs.SlLaysF0.n6 Try.prog Try.sortC_ren := {
  mixed := by kernel_rfl
  f6 := ⟨Try.f61.name, by decide, Try.func61.trans (congrArg some (by kernel_rfl))⟩
  f14 := ⟨Try.f87.name, by decide, Try.func87.trans (congrArg some (by kernel_rfl))⟩
  f15 := Try.func88.trans (congrArg some (by kernel_rfl))
  f20 := ⟨Try.f96.name, by decide, Try.func96.trans (congrArg some (by kernel_rfl))⟩
  f21 := ⟨Try.f97.name, by decide, Try.func97.trans (congrArg some (by kernel_rfl))⟩
  f22 := ⟨Try.f98.name, by decide, Try.func98.trans (congrArg some (by kernel_rfl))⟩
  f23 := ⟨Try.f99.name, by decide, Try.func99.trans (congrArg some (by kernel_rfl))⟩
  f24 := ⟨Try.f100.name, by decide, Try.func100.trans (congrArg some (by kernel_rfl))⟩
  f25 := ⟨Try.f101.name, by decide, Try.func101.trans (congrArg some (by kernel_rfl))⟩
  f26 := ⟨Try.f102.name, by decide, Try.func102.trans (congrArg some (by kernel_rfl))⟩
  f27 := ⟨Try.f103.name, by decide, Try.func103.trans (congrArg some (by kernel_rfl))⟩
  f28 := Try.func104.trans (congrArg some (by kernel_rfl))
  f29 := Try.func105.trans (congrArg some (by kernel_rfl))
  f46 := ⟨Try.f116.name, by decide, Try.func116.trans (congrArg some (by kernel_rfl))⟩
  f47 := Try.func117.trans (congrArg some (by kernel_rfl))
  f48 := Try.func118.trans (congrArg some (by kernel_rfl))
  f49 := ⟨Try.f119.name, by decide, Try.func119.trans (congrArg some (by kernel_rfl))⟩
  f50 := ⟨Try.f120.name, by decide, Try.func120.trans (congrArg some (by kernel_rfl))⟩
  f57 := ⟨Try.f125.name, by decide, Try.func125.trans (congrArg some (by kernel_rfl))⟩
  t0 := Try.underlying0
  a0 := Try.isAgg0
  z0 := Try.sizeOf0
  v0 := Try.zeroValue0
  t3 := Try.underlying3
  a3 := Try.isAgg3
  z3 := Try.sizeOf3
  v3 := Try.zeroValue3
  t4 := Try.underlying4
  a4 := Try.isAgg4
  z4 := Try.sizeOf4
  v4 := Try.zeroValue4
  t5 := Try.underlying5
  a5 := Try.isAgg5
  z5 := Try.sizeOf5
  v5 := Try.zeroValue5
  t9 := Try.underlying9
  a9 := Try.isAgg9
  z9 := Try.sizeOf9
  v9 := Try.zeroValue9
  t22 := Try.underlying90
  a22 := Try.isAgg90
  z22 := Try.sizeOf90
  v22 := Try.zeroValue90
  t25 := Try.underlying93
  a25 := Try.isAgg93
  z25 := Try.sizeOf93
  v25 := Try.zeroValue93
  t39 := Try.underlying117
  a39 := Try.isAgg117
  z39 := Try.sizeOf117
  v39 := Try.zeroValue117
  t45 := Try.underlying122
  a45 := Try.isAgg122
  z45 := Try.sizeOf122
  v45 := Try.zeroValue122
  t46 := Try.underlying123
  a46 := Try.isAgg123
  z46 := Try.sizeOf123
  v46 := Try.zeroValue123
  t50 := Try.underlying127
  a50 := Try.isAgg127
  z50 := Try.sizeOf127
  v50 := Try.zeroValue127
  t53 := Try.underlying130
  a53 := Try.isAgg130
  z53 := Try.sizeOf130
  v53 := Try.zeroValue130
  t55 := Try.underlying132
  a55 := Try.isAgg132
  z55 := Try.sizeOf132
  v55 := Try.zeroValue132
  t66 := Try.underlying140
  a66 := Try.isAgg140
  z66 := Try.sizeOf140
  v66 := Try.zeroValue140
  t70 := Try.underlying144
  a70 := Try.isAgg144
  z70 := Try.sizeOf144
  v70 := Try.zeroValue144
  t76 := Try.underlying148
  a76 := Try.isAgg148
  z76 := Try.sizeOf148
  v76 := Try.zeroValue148
  t77 := Try.underlying149
  a77 := Try.isAgg149
  z77 := Try.sizeOf149
  v77 := Try.zeroValue149 }
def Try.sortP_ren : Go.Shelf.Ren := ⟨fun | 6 => 63 | 15 => 88 | 14 => 90 | 28 => 104 | 29 => 105 | 20 => 106 | 21 => 107 | 22 => 108 | 23 => 109 | 24 => 110 | 25 => 111 | 26 => 112 | 27 => 113 | 46 => 121 | 47 => 117 | 48 => 118 | 49 => 122 | 50 => 123 | 57 => 126 | n => n, fun | 22 => 28 | 24 => 37 | 25 => 97 | 3 => 3 | 39 => 117 | 0 => 0 | 53 => 130 | 55 => 132 | 4 => 4 | 46 => 123 | 45 => 122 | 50 => 127 | 5 => 5 | 9 => 9 | 66 => 140 | 70 => 144 | 76 => 148 | 77 => 149 | n => n, fun | n => n⟩
theorem Try.sortP : Go.Proofs.SlLaysF0.n6 Try.prog Try.sortP_ren := {
  mixed := by kernel_rfl
  f6 := ⟨Try.f63.name, by decide, Try.func63.trans (congrArg some (by kernel_rfl))⟩
  f14 := ⟨Try.f90.name, by decide, Try.func90.trans (congrArg some (by kernel_rfl))⟩
  f15 := Try.func88.trans (congrArg some (by kernel_rfl))
  f20 := ⟨Try.f106.name, by decide, Try.func106.trans (congrArg some (by kernel_rfl))⟩
  f21 := ⟨Try.f107.name, by decide, Try.func107.trans (congrArg some (by kernel_rfl))⟩
  f22 := ⟨Try.f108.name, by decide, Try.func108.trans (congrArg some (by kernel_rfl))⟩
  f23 := ⟨Try.f109.name, by decide, Try.func109.trans (congrArg some (by kernel_rfl))⟩
  f24 := ⟨Try.f110.name, by decide, Try.func110.trans (congrArg some (by kernel_rfl))⟩
  f25 := ⟨Try.f111.name, by decide, Try.func111.trans (congrArg some (by kernel_rfl))⟩
  f26 := ⟨Try.f112.name, by decide, Try.func112.trans (congrArg some (by kernel_rfl))⟩
  f27 := ⟨Try.f113.name, by decide, Try.func113.trans (congrArg some (by kernel_rfl))⟩
  f28 := Try.func104.trans (congrArg some (by kernel_rfl))
  f29 := Try.func105.trans (congrArg some (by kernel_rfl))
  f46 := ⟨Try.f121.name, by decide, Try.func121.trans (congrArg some (by kernel_rfl))⟩
  f47 := Try.func117.trans (congrArg some (by kernel_rfl))
  f48 := Try.func118.trans (congrArg some (by kernel_rfl))
  f49 := ⟨Try.f122.name, by decide, Try.func122.trans (congrArg some (by kernel_rfl))⟩
  f50 := ⟨Try.f123.name, by decide, Try.func123.trans (congrArg some (by kernel_rfl))⟩
  f57 := ⟨Try.f126.name, by decide, Try.func126.trans (congrArg some (by kernel_rfl))⟩
  t0 := Try.underlying0
  a0 := Try.isAgg0
  z0 := Try.sizeOf0
  v0 := Try.zeroValue0
  t3 := Try.underlying3
  a3 := Try.isAgg3
  z3 := Try.sizeOf3
  v3 := Try.zeroValue3
  t4 := Try.underlying4
  a4 := Try.isAgg4
  z4 := Try.sizeOf4
  v4 := Try.zeroValue4
  t5 := Try.underlying5
  a5 := Try.isAgg5
  z5 := Try.sizeOf5
  v5 := Try.zeroValue5
  t9 := Try.underlying9
  a9 := Try.isAgg9
  z9 := Try.sizeOf9
  v9 := Try.zeroValue9
  t22 := Try.underlying28
  a22 := Try.isAgg28
  z22 := Try.sizeOf28
  v22 := Try.zeroValue28
  t25 := Try.underlying97
  a25 := Try.isAgg97
  z25 := Try.sizeOf97
  v25 := Try.zeroValue97
  t39 := Try.underlying117
  a39 := Try.isAgg117
  z39 := Try.sizeOf117
  v39 := Try.zeroValue117
  t45 := Try.underlying122
  a45 := Try.isAgg122
  z45 := Try.sizeOf122
  v45 := Try.zeroValue122
  t46 := Try.underlying123
  a46 := Try.isAgg123
  z46 := Try.sizeOf123
  v46 := Try.zeroValue123
  t50 := Try.underlying127
  a50 := Try.isAgg127
  z50 := Try.sizeOf127
  v50 := Try.zeroValue127
  t53 := Try.underlying130
  a53 := Try.isAgg130
  z53 := Try.sizeOf130
  v53 := Try.zeroValue130
  t55 := Try.underlying132
  a55 := Try.isAgg132
  z55 := Try.sizeOf132
  v55 := Try.zeroValue132
  t66 := Try.underlying140
  a66 := Try.isAgg140
  z66 := Try.sizeOf140
  v66 := Try.zeroValue140
  t70 := Try.underlying144
  a70 := Try.isAgg144
  z70 := Try.sizeOf144
  v70 := Try.zeroValue144
  t76 := Try.underlying148
  a76 := Try.isAgg148
  z76 := Try.sizeOf148
  v76 := Try.zeroValue148
  t77 := Try.underlying149
  a77 := Try.isAgg149
  z77 := Try.sizeOf149
  v77 := Try.zeroValue149 }
end Go.Proofs
end
section
namespace Go.Proofs.Ytoefeboikkhdkaa.X.Gr
open Go.RowKit Go.Sort Go.Proofs.YtoefeboikkhdkaaW.PrintWords
set_option linter.unusedVariables false
theorem cells_len {α : Type} (enc : α → List Value) (k : Nat) (hk : ∀ x, (enc x).length = k) : ∀ l : List α, (l.flatMap enc).length = l.length * k
  | [] => by simp
  | x :: l => by rw [List.flatMap_cons, List.length_append, cells_len enc k hk l, hk, List.length_cons, Nat.succ_mul]; omega
section
variable {α : Type} [Inhabited α] (enc : α → List Value) (k : Nat)
theorem cells_get (hk : ∀ x, (enc x).length = k) (k0 : 0 < k) : ∀ (l : List α) (t : Nat), t < l.length * k → (l.flatMap enc)[t]? = some ((enc (l.toArray[t / k]!))[t % k]!)
  | [], t, h => by simp at h
  | x :: l, t, h => by
    rw [List.flatMap_cons]
    rcases Nat.lt_or_ge t k with h1 | h1
    · rw [List.getElem?_append_left (by rw [hk]; exact h1), Nat.div_eq_of_lt h1, Nat.mod_eq_of_lt h1]
      have h2 : t < (enc x).length := by rw [hk]; exact h1
      rw [List.getElem?_eq_getElem h2]
      simp [h2]
    · obtain ⟨s, rfl⟩ : ∃ s, t = s + k := ⟨t - k, by omega⟩
      have hs : s < l.length * k := by
        rw [List.length_cons, Nat.succ_mul] at h; omega
      have ih := cells_get hk k0 l s hs
      rw [List.getElem?_append_right (by rw [hk]; omega), hk, Nat.add_sub_cancel, ih, Nat.add_div_right _ k0, Nat.add_mod_right]
      have hd : s / k < l.length := (Nat.div_lt_iff_lt_mul k0).2 hs
      simp [hd]
theorem flat_cells (hk : ∀ x, (enc x).length = k) (k0 : 0 < k) (l : List α) : (flatK enc k l.toArray).toList = l.flatMap enc := by
  refine List.ext_getElem? fun t => ?_
  rcases Nat.lt_or_ge t (l.length * k) with h | h
  · rw [cells_get enc k hk k0 l t h]
    have h2 := get_flatK enc k l.toArray t (by simpa using h)
    have h3 : t < (flatK enc k l.toArray).size := by rw [size_flatK]; simpa using h
    rw [← h2, Array.getElem?_toList, Array.getElem?_eq_getElem h3, getElem!_pos _ t h3]
  · rw [List.getElem?_eq_none (by rw [Array.length_toList, size_flatK]; simpa using h), List.getElem?_eq_none (by rw [cells_len enc k hk]; exact h)]
theorem own_holds (hk : ∀ x, (enc x).length = k) (k0 : 0 < k) {W : World} {g cap : Nat} {cur : Array Value} {e : TypeId} {l : List α} (hg : W.heap[g]? = some (.cells cur e (0, 0))) (hc : l.length ≤ cap) (hs : cur.size = cap * k) (ht : cur.toList.take (l.length * k) = l.flatMap enc) :
    HoldsK enc k W g 0 l.toArray := by
  intro j hj
  rw [size_flatK] at hj
  have hj' : j < l.length * k := by simpa using hj
  have hjc : j < cur.size := by
    have := Nat.mul_le_mul_right k hc
    omega
  have h2 := get_flatK enc k l.toArray j hj
  have h1 := cells_get enc k hk k0 l j hj'
  rw [← ht, List.getElem?_take_of_lt hj', Array.getElem?_toList, Array.getElem?_eq_getElem hjc] at h1
  refine ⟨?_, by simp [World.frozen?, hg]⟩
  rw [h2, Nat.zero_add]
  simp only [World.cell?, hg]
  rw [Array.getElem?_eq_getElem hjc]
  simpa using h1
theorem put_get (F cur : Array Value) (hF : F.size ≤ cur.size) : (putCells id 0 F cur).size = cur.size ∧ (putCells id 0 F cur).toList.take F.size = F.toList := by
  refine ⟨by simp [putCells], List.ext_getElem? fun t => ?_⟩
  rcases Nat.lt_or_ge t F.size with h | h
  · rw [List.getElem?_take_of_lt h, Array.getElem?_toList, Array.getElem?_toList, Array.getElem?_eq_getElem h]
    unfold putCells
    rw [Array.getElem?_mapIdx, Array.getElem?_eq_getElem (by omega)]
    simp [h]
  · rw [List.getElem?_eq_none (by rw [List.length_take]; omega), List.getElem?_eq_none (by simpa using h)]
/-- The row, put in order. -/
theorem own_sorted (hk : ∀ x, (enc x).length = k) (k0 : 0 < k) {W : World} {base g cap : Nat} {cur : Array Value} {e : TypeId} {l l' : List α} {n : Nat} {os : Array Obj} (hg : W.heap[g]? = some (.cells cur e (0, 0))) (hbg : base ≤ g) (hc : l.length ≤ cap) (hm : cap ≤ maxLen) (hs : cur.size = cap * k) (hl : l'.length = l.length) :
    (sortWorldK enc k W g 0 n l'.toArray os).ownsRow base e k (.slice (some ⟨g, 0, none⟩) l.length cap) l'.length (l'.flatMap enc) ∧ Below base W (sortWorldK enc k W g 0 n l'.toArray os) := by
  have hlt := blk_lt hg
  have hsz : (flatK enc k l'.toArray).size ≤ cur.size := by
    rw [size_flatK, hs]
    exact Nat.mul_le_mul_right k (by simpa [hl] using hc)
  obtain ⟨p1, p2⟩ := put_get (flatK enc k l'.toArray) cur hsz
  have hh : (sortWorldK enc k W g 0 n l'.toArray os).heap[g]? = some (.cells (putCells id 0 (flatK enc k l'.toArray) cur) e (0, 0)) := by
    show ((W.heap.modify g _) ++ os)[g]? = _
    rw [Array.getElem?_append_left (by rw [Array.size_modify]; exact hlt)]
    obtain ⟨h1, h2⟩ := Array.getElem?_eq_some_iff.1 hg
    rw [Array.getElem?_eq_getElem (by rw [Array.size_modify]; exact hlt), Array.getElem_modify_self, h2]
    rfl
  constructor
  · refine ⟨by rw [cells_len enc k hk], .inr ⟨g, cap, _, by rw [hl], hbg, hh, by omega, hm, by rw [p1, hs], ?_⟩⟩
    rw [size_flatK, flat_cells enc k hk k0] at p2
    simpa using p2
  · refine ⟨rfl, rfl, rfl, ?_, fun j hj => ?_⟩
    · show W.heap.size ≤ ((W.heap.modify g _) ++ os).size
      simp
    · show ((W.heap.modify g _) ++ os)[j]? = _
      rcases Nat.lt_or_ge j W.heap.size with h | h
      · rw [Array.getElem?_append_left (by rw [Array.size_modify]; exact h), Array.getElem?_modify, if_neg (by omega)]
      · omega
end
section
variable {α : Type} (le : α → α → Bool)
def insB (x : α) : List α → List α
  | [] => [x]
  | y :: t => if le x y = true then x :: y :: t else y :: insB x t
def isort (l : List α) : List α := l.foldr (insB le) []
theorem perm_insB (x : α) : ∀ l : List α, (insB le x l).Perm (x :: l)
  | [] => List.Perm.refl _
  | y :: t => by
    unfold insB
    split
    · exact List.Perm.refl _
    · exact ((perm_insB x t).cons y).trans (List.Perm.swap x y t)
theorem perm_isort : ∀ l : List α, (isort le l).Perm l
  | [] => List.Perm.refl _
  | x :: l => (perm_insB le x _).trans ((perm_isort l).cons x)
theorem sort_insB (tot : ∀ a b, (le a b || le b a) = true) (tr : ∀ a b c, le a b = true → le b c = true → le a c = true) (x : α) : ∀ l : List α, l.Pairwise (fun a b => le a b = true) → (insB le x l).Pairwise (fun a b => le a b = true)
  | [], _ => List.pairwise_singleton _ _
  | y :: t, h => by
    have h' := List.pairwise_cons.1 h
    unfold insB
    split
    · rename_i hxy
      refine List.pairwise_cons.2 ⟨fun z hz => ?_, h⟩
      rcases List.mem_cons.1 hz with rfl | hz
      · exact hxy
      · exact tr _ _ _ hxy (h'.1 z hz)
    · rename_i hxy
      have hyx : le y x = true := by
        have := tot x y
        rw [Bool.not_eq_true] at hxy
        rw [hxy] at this
        simpa using this
      refine List.pairwise_cons.2 ⟨fun z hz => ?_, sort_insB tot tr x t h'.2⟩
      rcases List.mem_cons.1 ((perm_insB le x t).mem_iff.1 hz) with rfl | hz
      · exact hyx
      · exact h'.1 z hz
theorem sort_isort (tot : ∀ a b, (le a b || le b a) = true) (tr : ∀ a b c, le a b = true → le b c = true → le a c = true) : ∀ l : List α, (isort le l).Pairwise (fun a b => le a b = true)
  | [] => List.Pairwise.nil
  | x :: l => sort_insB le tot tr x _ (sort_isort tot tr l)
theorem sorted_unique (anti : ∀ a b, le a b = true → le b a = true → a = b) : ∀ (a b : List α), a.Perm b → a.Pairwise (fun x y => le x y = true) → b.Pairwise (fun x y => le x y = true) → a = b
  | [], b, hp, _, _ => (List.Perm.nil_eq hp)
  | x :: a, [], hp, _, _ => absurd hp.length_eq (by simp)
  | x :: a, y :: b, hp, ha, hb => by
    have ha' := List.pairwise_cons.1 ha
    have hb' := List.pairwise_cons.1 hb
    have hxy : x = y := by
      rcases List.mem_cons.1 (hp.mem_iff.1 List.mem_cons_self) with e | h1
      · exact e
      · rcases List.mem_cons.1 (hp.mem_iff.2 List.mem_cons_self) with e | h2
        · exact e.symm
        · exact anti _ _ (ha'.1 _ h2) (hb'.1 _ h1)
    subst hxy
    rw [sorted_unique anti a b (List.Perm.cons_inv hp) ha'.2 hb'.2]
theorem merge_isort (tot : ∀ a b, (le a b || le b a) = true) (tr : ∀ a b c, le a b = true → le b c = true → le a c = true) (anti : ∀ a b, le a b = true → le b a = true → a = b) (l : List α) : l.mergeSort le = isort le l :=
  sorted_unique le anti _ _ ((List.mergeSort_perm l le).trans (perm_isort le l).symm) (List.pairwise_mergeSort tr tot l) (sort_isort le tot tr l)
end
instance : Inhabited SC := ⟨z57⟩
def encC (x : SC) : List Value := [.int .i64 x.f0, .int .i64 x.f1, .int .i64 x.f2]
abbrev cellsC (l : List SC) : List Value := l.flatMap encC
theorem cmp3_lt {a b : Int} : cmp3 a b < 0 ↔ a < b := by unfold cmp3; split <;> (try split) <;> omega
theorem cmp3_eq {a b : Int} : cmp3 a b = 0 ↔ a = b := by unfold cmp3; split <;> (try split) <;> omega
/-- Which one is better. -/
def Bet (x y : SC) : Prop := y.f2 < x.f2 ∨ y.f2 = x.f2 ∧ (x.f0 < y.f0 ∨ x.f0 = y.f0 ∧ x.f1 < y.f1)
instance (x y : SC) : Decidable (Bet x y) := by unfold Bet; exact inferInstance
theorem cmpR_lt {x y : SC} : cmpR x y < 0 ↔ Bet x y := by
  unfold cmpR Bet
  by_cases h2 : cmp3 y.f2 x.f2 = 0
  · rw [if_pos h2]
    have e2 := cmp3_eq.1 h2
    by_cases h0 : cmp3 x.f0 y.f0 = 0
    · rw [if_pos h0, cmp3_lt]
      have e0 := cmp3_eq.1 h0
      omega
    · rw [if_neg h0, cmp3_lt]
      have e0 : ¬ x.f0 = y.f0 := fun e => h0 (cmp3_eq.2 e)
      omega
  · rw [if_neg h2, cmp3_lt]
    have e2 : ¬ y.f2 = x.f2 := fun e => h2 (cmp3_eq.2 e)
    omega
theorem lt_bet (x y : SC) : Go.Proofs.ltOf cmpR x y = decide (Bet x y) := by
  unfold Go.Proofs.ltOf
  rw [Bool.eq_iff_iff, decide_eq_true_eq, decide_eq_true_eq, cmpR_lt]
theorem bet_irr (x : SC) : ¬ Bet x x := by unfold Bet; omega
theorem bet_trans {x y z : SC} (h1 : Bet x y) (h2 : Bet y z) : Bet x z := by unfold Bet at *; omega
theorem bet_tot {x y : SC} (h1 : ¬ Bet x y) (h2 : ¬ Bet y x) : x = y := by
  unfold Bet at *
  have e0 : x.f0 = y.f0 := by omega
  have e1 : x.f1 = y.f1 := by omega
  have e2 : x.f2 = y.f2 := by omega
  cases x; cases y; simp_all
theorem bet_asym {x y : SC} (h : Bet x y) : ¬ Bet y x := fun h2 => bet_irr x (bet_trans h h2)
theorem swoC : SWO (Go.Proofs.ltOf cmpR) where
  irrefl x := by rw [lt_bet]; exact decide_eq_false (bet_irr x)
  trans x y z h1 h2 := by rw [lt_bet] at *; exact decide_eq_true (bet_trans (of_decide_eq_true h1) (of_decide_eq_true h2))
  ntrans x y z h1 h2 := by
    rw [lt_bet] at *
    have h1' := of_decide_eq_false h1
    have h2' := of_decide_eq_false h2
    refine decide_eq_false fun h3 => ?_
    unfold Bet at *
    omega
def leC (x y : SC) : Bool := !decide (Bet y x)
def sortC (l : List SC) : List SC := isort leC l
theorem leC_tot (a b : SC) : (leC a b || leC b a) = true := by
  unfold leC
  by_cases h : Bet b a
  · have := bet_asym h; simp [this]
  · simp [h]
theorem leC_trans (a b c : SC) (h1 : leC a b = true) (h2 : leC b c = true) : leC a c = true := by
  unfold leC at *
  simp only [Bool.not_eq_true', decide_eq_false_iff_not] at *
  intro h3
  unfold Bet at *
  omega
theorem leC_anti (a b : SC) (h1 : leC a b = true) (h2 : leC b a = true) : a = b := by
  unfold leC at *
  simp only [Bool.not_eq_true', decide_eq_false_iff_not] at *
  exact bet_tot h2 h1
theorem sortC_len (l : List SC) : (sortC l).length = l.length := (perm_isort leC l).length_eq
theorem merge_sortC (l : List SC) : (l.mergeSort fun x y => !Go.Proofs.ltOf cmpR y x) = sortC l := by
  have e : (fun x y : SC => !Go.Proofs.ltOf cmpR y x) = leC := by funext x y; unfold leC; rw [lt_bet]
  rw [e]
  exact merge_isort leC leC_tot leC_trans leC_anti l
theorem sortC_calls (l : List SC) (v : Value) (base : Nat) (W : World) (ho : W.ownsRow base 91 3 v l.length (cellsC l)) (hl : l.length ≤ 100000) :
    Calls Try.prog 61 #[v, .func (.func 62) #[] #[]] W fun e w' => e = .returned (.tuple #[]) ∧ w'.ownsRow base 91 3 v l.length (cellsC (sortC l)) ∧ Below base W w' := by
  rcases ho.2 with ⟨rfl, h0⟩ | ⟨g, cap, cur, rfl, hbg, hg, hc, hm, hs, ht⟩
  · have hS := AnyF.slices_SortFunc_none (P := Try.prog) (ρ := Try.sortC_ren) { Try.sortC with } none 0 (.func (.func 62) #[] #[]) W
    refine hS.mono ?_
    rintro e w' ⟨rfl, rfl⟩
    obtain rfl := List.eq_nil_of_length_eq_zero h0
    exact ⟨rfl, ho, Below.refl _ _⟩
  · have eg : ∀ args w, (callFunc 62 args).run Try.prog w = .ok (.enter 62 args) w := enters_of Try.func62 (by kernel_rfl) rfl
    have hH := own_holds encC 3 (fun _ => rfl) (by decide) hg hc hs ht
    have hS := AnyQ.slices_SortFunc_total Try.sortC 3 Try.isAgg91 Try.sizeOf91 encC (fun _ => rfl) (fun x v hv => by simp [encC] at hv; rcases hv with rfl | rfl | rfl <;> rfl) cmpR swoC 62 #[] g 0 cap l.toArray W eg
      (fun _ _ _ _ x y => compare_calls x y _) hH (blk_lt hg) (by simp; omega) (fun x y h1 h2 => by rw [lt_bet] at *; exact bet_tot (of_decide_eq_false h1) (of_decide_eq_false h2))
    change Calls Try.prog 61 #[.slice (some ⟨g, 0, none⟩) l.length cap, .func (.func 62) #[] #[]] W _ at hS
    refine hS.mono ?_
    rintro e w' ⟨rfl, n, os, rfl⟩
    have hms : l.toArray.toList.mergeSort (fun x y => !Go.Proofs.ltOf cmpR y x) = sortC l := merge_sortC l
    rw [hms]
    have hl' := sortC_len l
    obtain ⟨q1, q2⟩ := own_sorted encC 3 (fun _ => rfl) (by decide) (base := base) (n := n) (os := os) hg hbg hc hm hs hl'
    rw [hl'] at q1
    exact ⟨rfl, q1, q2⟩
end Go.Proofs.Ytoefeboikkhdkaa.X.Gr
end
section
namespace Go.Proofs.Ytoefeboikkhdkaa.X.Gr
open Go.RowKit Go.Sort Go.Proofs.YtoefeboikkhdkaaW.PrintWords
set_option linter.unusedVariables false
instance : Inhabited PS := ⟨z37⟩
def encP (x : PS) : List Value := [.int .i64 x.f0, .int .i64 x.f1]
abbrev cellsP (l : List PS) : List Value := l.flatMap encP
theorem byB_calls (x y : PS) (W : World) : Calls Try.prog 64 #[.agg #[.int .i64 x.f0, .int .i64 x.f1], .agg #[.int .i64 y.f0, .int .i64 y.f1]] W fun e w' => e = .returned (.int .i64 (cmp3 x.f1 y.f1)) ∧ Gro W w' := by
  have hcon := fun W' => cmp_Compare_int.calls x.f1 y.f1 _ W' (compareI_some x.f1 y.f1)
  generalize cmp3 x.f1 y.f1 = r at hcon ⊢
  go_enter Try.func64, Try.ntmps64
  go_wp2_with (go_at_call 65; refine (hcon _).mono ?_; rintro e w' ⟨rfl, n, rfl⟩)
  go_ret
  exact ⟨rfl, by repeat (first | (with_reducible exact gro_refl _) | apply gro_drewN | apply gro_alloc)⟩
theorem swoP : SWO (Go.Proofs.ltOf fun x y : PS => cmp3 x.f1 y.f1) where
  irrefl x := by unfold Go.Proofs.ltOf; exact decide_eq_false (by rw [cmp3_lt]; omega)
  trans x y z h1 h2 := by
    unfold Go.Proofs.ltOf at *
    have h1' := cmp3_lt.1 (of_decide_eq_true h1)
    have h2' := cmp3_lt.1 (of_decide_eq_true h2)
    exact decide_eq_true (cmp3_lt.2 (by omega))
  ntrans x y z h1 h2 := by
    unfold Go.Proofs.ltOf at *
    have h1' := of_decide_eq_false h1
    have h2' := of_decide_eq_false h2
    rw [cmp3_lt] at h1' h2'
    exact decide_eq_false (by rw [cmp3_lt]; omega)
theorem sortP_calls (l : List PS) (v : Value) (base : Nat) (W : World) (ho : W.ownsRow base 37 2 v l.length (cellsP l)) (hl : l.length ≤ 100000) (hn : (l.map (·.f1)).Nodup) :
    Calls Try.prog 63 #[v, .func (.func 64) #[] #[]] W fun e w' => e = .returned (.tuple #[]) ∧ w'.ownsRow base 37 2 v l.length (cellsP (l.foldl putP [])) ∧ Below base W w' := by
  rcases ho.2 with ⟨rfl, h0⟩ | ⟨g, cap, cur, rfl, hbg, hg, hc, hm, hs, ht⟩
  · have hS := AnyF.slices_SortFunc_none (P := Try.prog) (ρ := Try.sortP_ren) { Try.sortP with } none 0 (.func (.func 64) #[] #[]) W
    refine hS.mono ?_
    rintro e w' ⟨rfl, rfl⟩
    obtain rfl := List.eq_nil_of_length_eq_zero h0
    exact ⟨rfl, ho, Below.refl _ _⟩
  · have eg : ∀ args w, (callFunc 64 args).run Try.prog w = .ok (.enter 64 args) w := enters_of Try.func64 (by kernel_rfl) rfl
    have hH := own_holds encP 2 (fun _ => rfl) (by decide) hg hc hs ht
    have hS := AnyQ.slices_SortFunc Try.sortP 2 Try.isAgg37 Try.sizeOf37 encP (fun _ => rfl) (fun x v hv => by simp [encP] at hv; rcases hv with rfl | rfl <;> rfl) (fun x y => cmp3 x.f1 y.f1) swoP 64 #[] g 0 cap l.toArray W eg
      (fun _ _ _ _ x y => byB_calls x y _) hH (blk_lt hg) (by simp; omega)
    change Calls Try.prog 63 #[.slice (some ⟨g, 0, none⟩) l.length cap, .func (.func 64) #[] #[]] W _ at hS
    refine hS.mono ?_
    rintro e w' ⟨rfl, d', n, os, ⟨hp1, _, hp2⟩, hso, rfl⟩
    have hsz : d'.size = l.length := by simpa using hp1
    have hperm : d'.toList.Perm l := by
      have e1 : d'.extract 0 l.toArray.size = d' := by rw [show l.toArray.size = d'.size from by simp [hsz]]; exact Array.extract_size
      have e2 : l.toArray.extract 0 l.toArray.size = l.toArray := Array.extract_size
      rw [e1, e2] at hp2
      simpa using hp2
    have hsort : SortB d'.toList := by
      refine List.pairwise_iff_getElem.2 fun i j hi hj hij => ?_
      have h3 := hso i j (Nat.zero_le _) hij (by simpa [hsz] using hj)
      have hi' : i < d'.size := by simpa using hi
      have hj' : j < d'.size := by simpa using hj
      rw [getElem!_pos _ i hi', getElem!_pos _ j hj'] at h3
      unfold Go.Proofs.ltOf at h3
      have h4 := of_decide_eq_false h3
      rw [cmp3_lt] at h4
      simp only [Array.getElem_toList]
      omega
    have hf := fold_unique hperm hsort hn
    have hl' : (l.foldl putP []).length = l.length := by rw [foldl_put_len]; simp
    have hd : d' = (l.foldl putP []).toArray := by rw [← hf]
    rw [hd]
    obtain ⟨q1, q2⟩ := own_sorted encP 2 (fun _ => rfl) (by decide) (base := base) (n := n) (os := os) hg hbg hc hm hs hl'
    rw [hl'] at q1
    exact ⟨rfl, q1, q2⟩
end Go.Proofs.Ytoefeboikkhdkaa.X.Gr
end
section
namespace Go.Proofs.Ytoefeboikkhdkaa.X.Gr
open Go.RowKit Go.WideMaps Go.Maps Go.Proofs.YtoefeboikkhdkaaW.PrintWords Go.Proofs.Ytoefeboikkhdkaa.GMap
set_option linter.unusedVariables false
theorem lawI : Keyed Try.prog 3 := int_keyed Try.underlying3
theorem zeroI (w : World) : (zeroValue 3).run Try.prog w = .ok (.int .i64 0) w := by kernel_rfl
abbrev MapI (w : World) (b s : Nat) (f : Int → Option Int) : Prop := MapO Try.prog 3 3 Go.Proofs.Ytoefeboikkhdkaa.GMap.encI w b s f
theorem keyI {x : Int} (hx : (Lit.int .i64 x).wf = true) : keyOf Try.prog 3 (.int .i64 x) = some (Go.Proofs.Ytoefeboikkhdkaa.GMap.encI.lit x) := keyOf_int_mk Try.underlying3 hx
theorem ha (w : World) (o : Obj) (i : Nat) : (w.alloc o).heap[i]? = if i = w.heap.size then some o else w.heap[i]? := Array.getElem?_push
/-- How often each number came, and how many came. -/
def cntI (xs : List Int) : Int → Option Int := fun x => if xs.count x = 0 then none else some (xs.count x : Nat)
theorem cntI_getD (xs : List Int) (x : Int) : (cntI xs x).getD 0 = (xs.count x : Nat) := by unfold cntI; split <;> simp_all
theorem cntI_snoc (xs : List Int) (x : Int) : cntI (xs ++ [x]) = upd (cntI xs) x ((cntI xs x).getD 0 + 1) := by
  funext y
  unfold upd
  rw [cntI_getD]
  unfold cntI
  rw [List.count_append, List.count_singleton]
  by_cases h : y = x
  · subst h; simp
  · have h' : ¬ x = y := fun e => h e.symm
    simp [h, h']
def dsz (xs : List Int) : Nat := (xs.foldl (fun (acc : List Int) x => if x ∈ acc then acc else acc ++ [x]) []).length
theorem dsz_mem (xs : List Int) (y : Int) : y ∈ xs.foldl (fun (acc : List Int) x => if x ∈ acc then acc else acc ++ [x]) [] ↔ y ∈ xs := by
  suffices h : ∀ (xs acc : List Int), y ∈ xs.foldl (fun (acc : List Int) x => if x ∈ acc then acc else acc ++ [x]) acc ↔ y ∈ acc ∨ y ∈ xs by simpa using h xs []
  intro xs
  induction xs with
  | nil => simp
  | cons x xs ih =>
    intro acc
    rw [List.foldl_cons, ih]
    by_cases hx : x ∈ acc
    · rw [if_pos hx, List.mem_cons]
      constructor
      · rintro (h | h)
        · exact .inl h
        · exact .inr (.inr h)
      · rintro (h | rfl | h)
        · exact .inl h
        · exact .inl hx
        · exact .inr h
    · rw [if_neg hx]; simp [or_assoc]
theorem dsz_snoc (xs : List Int) (x : Int) : dsz (xs ++ [x]) = if x ∈ xs then dsz xs else dsz xs + 1 := by
  unfold dsz
  rw [List.foldl_append, List.foldl_cons, List.foldl_nil]
  by_cases h : x ∈ xs
  · rw [if_pos ((dsz_mem xs x).2 h), if_pos h]
  · rw [if_neg (fun k => h ((dsz_mem xs x).1 k)), if_neg h]; simp
theorem dsz_grow (xs : List Int) (x : Int) : grow (cntI xs) x (dsz xs) = dsz (xs ++ [x]) := by
  have e : (cntI xs x).isSome = decide (x ∈ xs) := by
    unfold cntI
    by_cases h : x ∈ xs
    · have h1 : ¬ xs.count x = 0 := fun k => List.count_eq_zero.1 k h
      rw [if_neg h1, decide_eq_true h]; rfl
    · rw [if_pos (List.count_eq_zero.2 h), decide_eq_false h]; rfl
  rw [dsz_snoc]
  unfold grow
  rw [e]
  by_cases h : x ∈ xs <;> simp [h]
theorem dsz_le (xs : List Int) : dsz xs ≤ xs.length := by
  suffices h : ∀ (n : Nat) (xs : List Int), xs.length = n → dsz xs ≤ xs.length from h _ xs rfl
  intro n
  induction n with
  | zero => intro xs h; rw [List.eq_nil_of_length_eq_zero h]; exact Nat.le_refl _
  | succ n ih =>
    intro xs h
    have hne : xs ≠ [] := by intro e; rw [e] at h; simp at h
    rw [← List.dropLast_concat_getLast hne, dsz_snoc]
    have := ih xs.dropLast (by simp [h])
    split <;> simp <;> simp at this <;> omega
theorem cntI_step {xs : List Int} {x : Int} (hl : xs.length ≤ 100000) : upd (cntI xs) x (wrap64 ((cntI xs x).getD 0 + 1)) = cntI (xs ++ [x]) := by
  rw [cntI_snoc, cntI_getD]
  have := List.count_le_length (a := x) (l := xs)
  rw [show wrap64 ((xs.count x : Nat) + 1 : Int) = (xs.count x : Nat) + 1 from by unfold wrap64; omega]
theorem infoC : (Try.prog.info? 91).map (fun i => (i.zero, i.size, i.bytes)) = some (some (.agg #[(.int .i64 0), (.int .i64 0), (.int .i64 0)]), 3, 24) := by kernel_rfl
theorem infoP : (Try.prog.info? 37).map (fun i => (i.zero, i.size, i.bytes)) = some (some (.agg #[(.int .i64 0), (.int .i64 0)]), 2, 16) := by kernel_rfl
theorem rdC_mem {l : List SC} {t : Nat} (h : t < l.length) : rd_T57 l (t : Int) ∈ l := by
  unfold rd_T57
  rw [show (t : Int).toNat = t from rfl, List.getD_eq_getElem?_getD, List.getElem?_eq_getElem h]
  exact List.getElem_mem h
theorem take_rdC {l : List SC} {t : Nat} (h : t < l.length) : l.take (t + 1) = l.take t ++ [rd_T57 l (t : Int)] := by
  unfold rd_T57
  rw [show (t : Int).toNat = t from rfl, List.getD_eq_getElem?_getD, List.getElem?_eq_getElem h, List.take_succ_eq_append_getElem h]; rfl
theorem choiceAt {w : World} {A : Option Addr} {l : List SC} (h : Kd.C k57 w A l.length l) {t : Nat} (ht : t < l.length) : ∃ ad, A = some ad ∧ w.cell? (ad.add (t * 3)) = some (.int .i64 (rd_T57 l (t : Int)).f0) ∧
    w.cell? ⟨(ad.add (t * 3)).block, (ad.add (t * 3)).off + 1, none⟩ = some (.int .i64 (rd_T57 l (t : Int)).f1) ∧ w.cell? ⟨(ad.add (t * 3)).block, (ad.add (t * 3)).off + 2, none⟩ = some (.int .i64 (rd_T57 l (t : Int)).f2) := by
  obtain ⟨ad, e, h0, h1, h2⟩ := at_T57 h (t : Int) (by omega) (by omega)
  exact ⟨ad, e, h0, h1, h2⟩
theorem cellsC_snoc (l : List SC) (x : SC) : cellsC (l ++ [x]) = cellsC l ++ [.int .i64 x.f0, .int .i64 x.f1, .int .i64 x.f2] := by simp [cellsC, encC]
theorem cellsP_snoc (l : List PS) (x : PS) : cellsP (l ++ [x]) = cellsP l ++ [.int .i64 x.f0, .int .i64 x.f1] := by simp [cellsP, encP]
theorem reps_cellsC {w : World} {base : Nat} {ok : Nat → Prop} (ps : List SC) : Reps (k57.M w base ok) 3 ps (cellsC ps) := by
  suffices h : ∀ (n : Nat) (ps : List SC), ps.length = n → Reps (k57.M w base ok) 3 ps (cellsC ps) from h _ ps rfl
  intro n
  induction n with
  | zero => intro ps h; obtain rfl := List.eq_nil_of_length_eq_zero h; exact Reps.none _ _
  | succ n ih =>
    intro ps h
    have hne : ps ≠ [] := by intro e; rw [e] at h; simp at h
    rw [← List.dropLast_concat_getLast hne, cellsC_snoc]
    exact (ih ps.dropLast (by simp [h])).snoc (k57_mkM w base ok _) rfl
theorem reps_cellsP {w : World} {base : Nat} {ok : Nat → Prop} (ps : List PS) : Reps (k37.M w base ok) 2 ps (cellsP ps) := by
  suffices h : ∀ (n : Nat) (ps : List PS), ps.length = n → Reps (k37.M w base ok) 2 ps (cellsP ps) from h _ ps rfl
  intro n
  induction n with
  | zero => intro ps h; obtain rfl := List.eq_nil_of_length_eq_zero h; exact Reps.none _ _
  | succ n ih =>
    intro ps h
    have hne : ps ≠ [] := by intro e; rw [e] at h; simp at h
    rw [← List.dropLast_concat_getLast hne, cellsP_snoc]
    exact (ih ps.dropLast (by simp [h])).snoc (k37_mkM w base ok _) rfl
theorem R_choices {w' : World} {base : Nat} {v : Value} {ps : List SC} (ho : w'.ownsRow base 91 3 v ps.length (cellsC ps)) : Kd.R k57 91 w' base (fun _ => True) v ps :=
  ⟨fun _ _ => trivial, cellsC ps, ho, reps_cellsC _⟩
theorem R_pairs {w' : World} {base : Nat} {v : Value} {ps : List PS} (ho : w'.ownsRow base 37 2 v ps.length (cellsP ps)) : Kd.R k37 37 w' base (fun _ => True) v ps :=
  ⟨fun _ _ => trivial, cellsP ps, ho, reps_cellsP _⟩
theorem row_step {w wr w1 : World} {vo : Value} {n e z : Nat} {xs : List Value} {o : Obj} (ho : wr.ownsRow w.heap.size e z vo n xs) (hb : Below w.heap.size w wr) (hg : (wr.alloc o).grownBy w1 vo.ownBlock) : Below w.heap.size w w1 :=
  (hb.alloc hb.size o).grown hg (by simp; have := hb.size; omega) (fun k hk => own_base ho k hk)
theorem cell_at3 (w : World) (a b c : Value) (t : TypeId) (B : Nat) (hB : B = w.heap.size) : ∀ j u, [a, b, c][j]? = some u → (w.alloc (.cells #[a, b, c] t)).cell? ((⟨B, 0, none⟩ : Addr).add j) = some u := by
  subst hB
  intro j u hu
  have h := blk_new w (.cells #[a, b, c] t)
  have h2 : (w.alloc (.cells #[a, b, c] t)).cell? ((⟨w.heap.size, 0, none⟩ : Addr).add j) = #[a, b, c][j]? := by
    by_cases hj : j = 0
    · subst hj; exact blk_cell h 0
    · have : (⟨w.heap.size, 0, none⟩ : Addr).add j = ⟨w.heap.size, j, none⟩ := by simp [Addr.add, hj]
      rw [this]; exact blk_cell h j
  rw [h2]
  simpa using hu
theorem cell_at2 (w : World) (a b : Value) (t : TypeId) (B : Nat) (hB : B = w.heap.size) : ∀ j u, [a, b][j]? = some u → (w.alloc (.cells #[a, b] t)).cell? ((⟨B, 0, none⟩ : Addr).add j) = some u := by
  subst hB
  intro j u hu
  have h := blk_new w (.cells #[a, b] t)
  have h2 : (w.alloc (.cells #[a, b] t)).cell? ((⟨w.heap.size, 0, none⟩ : Addr).add j) = #[a, b][j]? := by
    by_cases hj : j = 0
    · subst hj; exact blk_cell h 0
    · have : (⟨w.heap.size, 0, none⟩ : Addr).add j = ⟨w.heap.size, j, none⟩ := by simp [Addr.add, hj]
      rw [this]; exact blk_cell h j
  rw [h2]
  simpa using hu
/-- One choice is looked at. -/
def stepK (out : List PS) (x : SC) : List PS := if x.f0 < 0 ∨ x.f1 < 0 ∨ 0 < (out.map (·.f0)).count x.f0 ∨ 0 < (out.map (·.f1)).count x.f1 then out else out ++ [⟨x.f0, x.f1⟩]
def pickL (l : List SC) : List PS := (sortC l).foldl stepK []
def pickR (l : List SC) : List PS := (pickL l).foldl putP []
def okC (l : List SC) : Bool := decide (l.length ≤ 100000) && l.all fun p => (Lit.int .i64 p.f0).wf && (Lit.int .i64 p.f1).wf
theorem okC_len {l : List SC} (h : okC l = true) : l.length ≤ 100000 := by
  simp only [okC, Bool.and_eq_true, decide_eq_true_eq] at h; exact h.1
theorem okC_mem {l : List SC} (h : okC l = true) : ∀ p ∈ l, (Lit.int .i64 p.f0).wf = true ∧ (Lit.int .i64 p.f1).wf = true := by
  simp only [okC, Bool.and_eq_true, List.all_eq_true, decide_eq_true_eq] at h; exact h.2
theorem stepK_len (out : List PS) (x : SC) : (stepK out x).length ≤ out.length + 1 := by unfold stepK; split <;> simp
theorem stepK_nd {out : List PS} (h : (out.map (·.f1)).Nodup) (x : SC) : ((stepK out x).map (·.f1)).Nodup := by
  unfold stepK
  split
  · exact h
  · rename_i hc
    rw [List.map_append]
    refine List.nodup_append.2 ⟨h, by simp, fun a ha b hb e => ?_⟩
    simp only [List.map_cons, List.map_nil, List.mem_singleton] at hb
    subst hb; subst e
    exact hc (.inr (.inr (.inr (List.count_pos_iff.2 ha))))
def atK (l : List SC) (t : Nat) : List PS := ((sortC l).take t).foldl stepK []
theorem atK_len (l : List SC) : ∀ t, (atK l t).length ≤ t := by
  intro t
  unfold atK
  suffices h : ∀ (xs : List SC) (out : List PS), (xs.foldl stepK out).length ≤ out.length + xs.length by
    have := h ((sortC l).take t) []
    rw [List.length_take] at this
    simp at this; omega
  intro xs
  induction xs with
  | nil => intro out; exact Nat.le_refl _
  | cons x xs ih => intro out; have := ih (stepK out x); have := stepK_len out x; rw [List.foldl_cons, List.length_cons]; omega
theorem atK_nd (l : List SC) (t : Nat) : ((atK l t).map (·.f1)).Nodup := by
  unfold atK
  suffices h : ∀ (xs : List SC) (out : List PS), (out.map (·.f1)).Nodup → ((xs.foldl stepK out).map (·.f1)).Nodup from h _ [] List.nodup_nil
  intro xs
  induction xs with
  | nil => intro out h; exact h
  | cons x xs ih => intro out h; exact ih _ (stepK_nd h x)
theorem atK_succ (l : List SC) {t : Nat} (ht : t < l.length) : atK l (t + 1) = stepK (atK l t) (rd_T57 (sortC l) (t : Int)) := by
  unfold atK
  rw [take_rdC (by rw [sortC_len]; exact ht), List.foldl_append]; rfl
theorem atK_all (l : List SC) : atK l l.length = pickL l := by
  unfold atK pickL
  rw [List.take_of_length_le (by rw [sortC_len]; omega)]
/-- Where the second loop stands. -/
structure PkAt (w2 : World) (out : List PS) (wr : World) : Prop where
  ma : MapI wr w2.heap.size (dsz (out.map (·.f0))) (cntI (out.map (·.f0)))
  mb : MapI wr (w2.heap.size + 1) (dsz (out.map (·.f1))) (cntI (out.map (·.f1)))
  hb : Below w2.heap.size w2 wr
theorem PkAt.start (w2 : World) : PkAt w2 [] ((w2.alloc (.map #[] 0)).alloc (.map #[] 0)) := by
  refine ⟨?_, ?_, ((Below.refl _ _).alloc (Nat.le_refl _) _).alloc (by simp) _⟩
  · have h := (MapO.made Try.prog 3 3 Go.Proofs.Ytoefeboikkhdkaa.GMap.encI w2).alloc (.map #[] 0)
    have e : cntI (([] : List PS).map (·.f0)) = fun _ => none := by funext k; simp [cntI]
    rw [e]; exact h
  · have h := MapO.made Try.prog 3 3 Go.Proofs.Ytoefeboikkhdkaa.GMap.encI (w2.alloc (.map #[] 0))
    have e : cntI (([] : List PS).map (·.f1)) = fun _ => none := by funext k; simp [cntI]
    rw [e]; rw [heapsz_alloc] at h; exact h
theorem PkAt.below {w2 wr wr' : World} {out : List PS} (h : PkAt w2 out wr) (hb : Below wr.heap.size wr wr') : PkAt w2 out wr' := ⟨h.ma.below hb, h.mb.below hb, h.hb.trans (hb.mono h.hb.size)⟩
theorem PkAt.alloc {w2 wr : World} {out : List PS} (h : PkAt w2 out wr) (o : Obj) : PkAt w2 out (wr.alloc o) := h.below ((Below.refl _ wr).alloc (Nat.le_refl _) o)
/-- A look-up, wherever it is asked. -/
theorem look_any {α : Type} {P : Program} {k e t : TypeId} {E : Enc α} {w : World} {m sz : Nat} {f : α → Option Int} (law : Keyed P k) (ht : P.underlying t = some (.map k e)) (he : P.underlying e = some (.int .i64)) (hz : ∀ w, (zeroValue e).run P w = .ok (.int .i64 0) w)
    (H : MapO P k e E w m sz f) {key : Value} {y : α} (hkey : keyOf P k key = some (E.lit y)) : Sem.run P (Instr.lookup t (.map (some m)) key false) w = .ok (.int .i64 ((f y).getD 0)) w := by
  obtain ⟨D, hown, hs, hD, hf⟩ := H
  obtain ⟨c, hrun, hat, hwc⟩ := hown.lookup_int law ht he (hz _) hkey
  have h := (hf y).2
  rw [hat] at h
  injection h with h1
  injection h1 with h1 h2
  subst h2
  exact hrun
theorem look_run {w : World} {m sz : Nat} {xs : List Int} {y : Int} (H : MapI w m sz (cntI xs)) (hy : (Lit.int .i64 y).wf = true) : Sem.run Try.prog (Instr.lookup 72 (.map (some m)) (.int .i64 y) false) w = .ok (.int .i64 (xs.count y : Nat)) w := by
  have h := look_any lawI Try.underlying72 Try.underlying3 zeroI H (keyI hy)
  rwa [cntI_getD] at h
theorem cnt_new {xs : List Int} {x : Int} (h : xs.count x = 0) : upd (cntI xs) x 1 = cntI (xs ++ [x]) := by
  rw [cntI_snoc, cntI_getD, h]; rfl
/-- A row is kept where a map grows. -/
theorem own_kept {w w' : World} {base n z m sz : Nat} {e : TypeId} {v : Value} {xs : List Value} {f : Int → Option Int} (ho : w.ownsRow base e z v n xs) (hm : MapI w m sz f) (hg : w.grownBy w' (some m)) : w'.ownsRow base e z v n xs := by
  refine ⟨ho.1, ?_⟩
  rcases ho.2 with h | ⟨g, cap, cur, hv, hb, hh, rest⟩
  · exact .inl h
  · refine .inr ⟨g, cap, cur, hv, hb, ?_, rest⟩
    refine (hg.block g (lt_of_block hh) fun e => ?_).trans hh
    obtain rfl : g = m := by simpa using e
    exact hm.noCells hh
theorem map_kept {w w' : World} {base n z m sz : Nat} {e : TypeId} {v : Value} {xs : List Value} {f : Int → Option Int} {o : Obj} (ho : w.ownsRow base e z v n xs) (hm : MapI w m sz f) (hg : (w.alloc o).grownBy w' v.ownBlock) : MapI w' m sz f := by
  refine (hm.alloc o).kept hg fun e => ?_
  obtain ⟨cells, hc⟩ := own_typed ho m e.symm
  exact hm.noCells hc
theorem PkAt.put1 {w2 W w3 : World} {out : List PS} {B : Nat} {p : SC} {fr : Nat × Nat} (h : PkAt w2 out W) (hbx : W.heap[B]? = some (.cells #[.int .i64 p.f0, .int .i64 p.f1, .int .i64 p.f2] 91 fr)) (hg : W.grownBy w3 (some w2.heap.size)) :
    w3.cell? ⟨B, 0, none⟩ = some (.int .i64 p.f0) ∧ w3.cell? ⟨B, 1, none⟩ = some (.int .i64 p.f1) ∧ w3.heap[B]? = some (.cells #[.int .i64 p.f0, .int .i64 p.f1, .int .i64 p.f2] 91 fr) ∧ MapI w3 (w2.heap.size + 1) (dsz (out.map (·.f1))) (cntI (out.map (·.f1))) := by
  have hne : B ≠ w2.heap.size := fun e => by subst e; exact h.ma.noCells hbx
  have hb3 := (hg.block _ (lt_of_block hbx) (by simpa using hne)).trans hbx
  exact ⟨by simp [World.cell?, hb3], by simp [World.cell?, hb3], hb3, h.mb.kept hg (by simp)⟩
theorem put2 {w2 w3 w4 : World} {sz : Nat} {f : Int → Option Int} {B : Nat} {p : SC} {fr : Nat × Nat} (hmb : MapI w3 (w2.heap.size + 1) sz f) (hbx : w3.heap[B]? = some (.cells #[.int .i64 p.f0, .int .i64 p.f1, .int .i64 p.f2] 91 fr)) (hg : w3.grownBy w4 (some (w2.heap.size + 1))) :
    w4.cell? ⟨B, 0, none⟩ = some (.int .i64 p.f0) ∧ w4.cell? ⟨B, 1, none⟩ = some (.int .i64 p.f1) := by
  have hne : B ≠ w2.heap.size + 1 := fun e => by subst e; exact hmb.noCells hbx
  have hb3 := (hg.block _ (lt_of_block hbx) (by simpa using hne)).trans hbx
  exact ⟨by simp [World.cell?, hb3], by simp [World.cell?, hb3]⟩
theorem PkAt.next {w2 W w3 w4 w5 : World} {out : List PS} {p : SC} {vo : Value} {n : Nat} {xs : List Value} {o : Obj} (h : PkAt w2 out W)
    (hm1 : MapI w3 w2.heap.size (GMap.grow (cntI (out.map (·.f0))) p.f0 (dsz (out.map (·.f0)))) (upd (cntI (out.map (·.f0))) p.f0 1)) (hg1 : W.grownBy w3 (some w2.heap.size))
    (hm2 : MapI w4 (w2.heap.size + 1) (GMap.grow (cntI (out.map (·.f1))) p.f1 (dsz (out.map (·.f1)))) (upd (cntI (out.map (·.f1))) p.f1 1)) (hg2 : w3.grownBy w4 (some (w2.heap.size + 1)))
    (ho4 : w4.ownsRow w2.heap.size 37 2 vo n xs) (hg3 : (w4.alloc o).grownBy w5 vo.ownBlock) (e0 : (out.map (·.f0)).count p.f0 = 0) (e1 : (out.map (·.f1)).count p.f1 = 0) : PkAt w2 (out ++ [⟨p.f0, p.f1⟩]) w5 := by
  rw [cnt_new e0, dsz_grow] at hm1
  rw [cnt_new e1, dsz_grow] at hm2
  have hb3 := h.hb.grown hg1 h.hb.size (fun j hj => by cases hj; exact Nat.le_refl _)
  have hb4 := hb3.grown hg2 hb3.size (fun j hj => by cases hj; omega)
  refine ⟨?_, ?_, row_step ho4 hb4 hg3⟩
  · rw [List.map_append]; exact map_kept ho4 (hm1.kept hg2 (by simp)) hg3
  · rw [List.map_append]; exact map_kept ho4 hm2 hg3
def greedy_Pick.f (l : List SC) : Option (List PS) := if okC l = true then some (pickR l) else none
set_option maxRecDepth 100000 in
set_option maxHeartbeats 1600000 in
theorem greedy_Pick.calls (A0 : Option Addr) (c0 : Nat) (l0 : List SC) (r : List PS) (w : World) (hr0 : Kd.C k57 w A0 l0.length l0) (hc0 : l0.length ≤ c0) (h : greedy_Pick.f l0 = some r) :
    Calls Try.prog 27 #[.slice A0 l0.length c0] w fun e w' => ∃ v0_ : Value, e = .returned (v0_) ∧ Kd.R k37 37 w' w.heap.size (fun _ => True) v0_ r ∧ Below w.heap.size w w' := by
  unfold greedy_Pick.f at h
  split at h
  · rename_i hok
    have H := Aside0.mk (Option.some.inj h)
    have HR0 := Aside0.mk hr0
    have HL := Aside0.mk hok
    have hla := okC_len hok
    have hmm := @run_makeMap Try.prog
    obtain ⟨i0, hi, hz0, hz1, hz2⟩ := info_parts infoC
    obtain ⟨j0, hj, hy0, hy1, hy2⟩ := info_parts infoP
    clear h hr0 hc0 hok
    go_enter Try.func27, Try.ntmps27
    go_wp2
    go_step3
    go_wp2
    go_loopw [13, 3] (fun vi vo wr => ∃ t : Nat, vi = .int .i64 t ∧ t ≤ l0.length ∧ wr.ownsRow w.heap.size 91 3 vo (l0.take t).length (cellsC (l0.take t)) ∧ Below w.heap.size w wr)
      (fun vi _ _ => l0.length - (intOf vi).toNat)
    case atStart => exact ⟨0, rfl, Nat.zero_le _, by simpa [cellsC] using World.ownsRow_nil _ _ _ _, Below.refl _ _⟩
    case round =>
      obtain ⟨t, rfl, ht, ho, hb⟩ := hrel
      by_cases hlt : t < l0.length
      · have HR2 := Aside0.mk (Kd.C_below HR0.out hb)
        have htk := Aside0.mk (take_rdC hlt)
        obtain ⟨ad, eA, hx0, hx1, hx2⟩ := choiceAt HR2.out hlt
        cases eA
        generalize rd_T57 l0 (t : Int) = p at *
        have hml : (l0.take t).length + 1 ≤ maxLen := by rw [List.length_take]; unfold maxLen; omega
        have hml2 : ((l0.take t).length + 1) * 24 ≤ 140737488355328 := by rw [List.length_take]; omega
        have HO2 := Aside0.mk (ho.alloc (.cells #[.int .i64 p.f0, .int .i64 p.f1, .int .i64 p.f2] 57))
        have hbA := hb.alloc hb.size (.cells #[.int .i64 p.f0, .int .i64 p.f1, .int .i64 p.f2] 57)
        have hz := hb.size
        have q3 : w.heap.size ≤ ((wr.alloc (.cells #[.int .i64 p.f0, .int .i64 p.f1, .int .i64 p.f2] 57)).alloc (.cells #[.int .i64 p.f0, .int .i64 p.f1, .int .i64 p.f2] 91)).heap.size := by rw [heapsz_alloc, heapsz_alloc]; omega
        clear ho
        go_wp2_with (first
          | (at_builtin; refine wpList_append_own _ rfl _ _ 90 rfl w.heap.size 91 i0 _ 3 24 Try.underlying90 hi hz0 hz1 hz2 rfl (by decide) _ _ _ rfl (HO2.out.alloc _) ⟨wr.heap.size + 1, 0, none⟩ 1 1 [.int .i64 p.f0, .int .i64 p.f1, .int .i64 p.f2] rfl rfl (cell_at3 _ _ _ _ _ _ (by rw [heapsz_alloc])) (by simp [Value.oneCell']) hml hml2 q3 ?_; intro v' w1 hown' hgrow _))
        have hbn := (hbA.alloc hbA.size (.cells #[.int .i64 p.f0, .int .i64 p.f1, .int .i64 p.f2] 91)).grown hgrow q3 (fun k hk => own_base HO2.out k hk)
        have e : cellsC (l0.take (t + 1)) = cellsC (l0.take t) ++ [.int .i64 p.f0, .int .i64 p.f1, .int .i64 p.f2] := by rw [htk.out, cellsC_snoc]
        have e2 : (l0.take (t + 1)).length = (l0.take t).length + 1 := by rw [htk.out]; simp
        rw [← e, ← e2] at hown'
        clear e e2
        go_roundw
        case rel => exact ⟨t + 1, by go_num, by omega, hown', hbn⟩
        case measure => simp [intOf]; omega
      · obtain rfl : t = l0.length := by omega
        have ho' : wr.ownsRow w.heap.size 91 3 u3 l0.length (cellsC l0) := by rwa [List.take_length] at ho
        clear ho
        have HO := Aside0.mk ho'
        clear ho'
        go_wp2_with (first
          | (go_at_call 61; (with_reducible refine (sortC_calls l0 _ w.heap.size _ HO.out hla).mono ?_); rintro e w2 ⟨rfl, ho2, hb2⟩))
        have HW := Aside0.mk (hb.trans hb2)
        clear HR0 HO hb
        have hls := sortC_len l0
        have ho3 : w2.ownsRow w.heap.size 91 3 u3 (sortC l0).length (cellsC (sortC l0)) := by rw [hls]; exact ho2
        obtain ⟨As, cs, rfl, hcs, hCs⟩ := Kd.R_reads (R_choices ho3)
        have HS := Aside0.mk hCs
        clear hCs ho2 ho3 hb2
        go_step3
        go_wp2
        go_loopw [28, 8] (fun vi vo wr => ∃ t : Nat, vi = .int .i64 t ∧ t ≤ l0.length ∧ wr.ownsRow w2.heap.size 37 2 vo (atK l0 t).length (cellsP (atK l0 t)) ∧ PkAt w2 (atK l0 t) wr)
          (fun vi _ _ => l0.length - (intOf vi).toNat)
        case atStart => exact ⟨0, rfl, Nat.zero_le _, by simpa [cellsP, atK] using World.ownsRow_nil _ _ _ _, PkAt.start w2⟩
        case round =>
          obtain ⟨t, rfl, ht, ho, hpk⟩ := hrel
          by_cases hlt : t < l0.length
          · have HS2 := Aside0.mk (Kd.C_below HS.out hpk.hb)
            obtain ⟨ad, eA, hx0, hx1, hx2⟩ := choiceAt HS2.out (t := t) (by omega)
            cases eA
            have hwf := okC_mem HL.out _ ((perm_isort leC l0).mem_iff.1 (rdC_mem (l := sortC l0) (t := t) (by omega)))
            have hsu := Aside0.mk (atK_succ l0 hlt)
            have lt1 : (t : Int) < ((sortC l0).length : Int) := by omega
            have hlk := atK_len l0 t
            generalize rd_T57 (sortC l0) (t : Int) = p at *
            generalize hout : atK l0 t = out at *
            have HPK := Aside0.mk hpk
            have HO := Aside0.mk ho
            have hbx : (wr.alloc (.cells #[.int .i64 p.f0, .int .i64 p.f1, .int .i64 p.f2] 91)).heap[wr.heap.size]? = some (.cells #[.int .i64 p.f0, .int .i64 p.f1, .int .i64 p.f2] 91 (0, 0)) := by rw [ha, if_pos rfl]
            have HPA := Aside0.mk (HPK.out.alloc (.cells #[.int .i64 p.f0, .int .i64 p.f1, .int .i64 p.f2] 91))
            have HOA := Aside0.mk (HO.out.alloc (.cells #[.int .i64 p.f0, .int .i64 p.f1, .int .i64 p.f2] 91))
            clear hpk ho
            by_cases k0 : p.f0 < 0
            · have e : atK l0 (t + 1) = out := by rw [hsu.out]; unfold stepK; rw [if_pos (.inl k0)]
              have HE := Aside0.mk e
              clear e hsu hout
              go_wp2
              go_roundw
              case rel => exact ⟨t + 1, by go_num, by omega, by rw [HE.out]; exact HOA.out, by rw [HE.out]; exact HPA.out⟩
              case measure => simp [intOf]; omega
            by_cases k1 : p.f1 < 0
            · have e : atK l0 (t + 1) = out := by rw [hsu.out]; unfold stepK; rw [if_pos (.inr (.inl k1))]
              have HE := Aside0.mk e
              clear e hsu hout
              go_wp2
              go_roundw
              case rel => exact ⟨t + 1, by go_num, by omega, by rw [HE.out]; exact HOA.out, by rw [HE.out]; exact HPA.out⟩
              case measure => simp [intOf]; omega
            have r1 := look_run HPA.out.ma hwf.1
            have r2 := look_run HPA.out.mb hwf.2
            by_cases k2 : 0 < (out.map (·.f0)).count p.f0
            · have e : atK l0 (t + 1) = out := by rw [hsu.out]; unfold stepK; rw [if_pos (.inr (.inr (.inl k2)))]
              have HE := Aside0.mk e
              have k2' : (0 : Int) < (((out.map (·.f0)).count p.f0 : Nat) : Int) := by omega
              clear e hsu hout
              generalize (((out.map (·.f0)).count p.f0 : Nat) : Int) = n1 at *
              go_wp2
              go_roundw
              case rel => exact ⟨t + 1, by go_num, by omega, by rw [HE.out]; exact HOA.out, by rw [HE.out]; exact HPA.out⟩
              case measure => simp [intOf]; omega
            by_cases k3 : 0 < (out.map (·.f1)).count p.f1
            · have e : atK l0 (t + 1) = out := by rw [hsu.out]; unfold stepK; rw [if_pos (.inr (.inr (.inr k3)))]
              have HE := Aside0.mk e
              have k2' : ¬ (0 : Int) < (((out.map (·.f0)).count p.f0 : Nat) : Int) := by omega
              have k3' : (0 : Int) < (((out.map (·.f1)).count p.f1 : Nat) : Int) := by omega
              clear e hsu hout
              generalize (((out.map (·.f0)).count p.f0 : Nat) : Int) = n1 at *
              generalize (((out.map (·.f1)).count p.f1 : Nat) : Int) = n2 at *
              go_wp2
              go_roundw
              case rel => exact ⟨t + 1, by go_num, by omega, by rw [HE.out]; exact HOA.out, by rw [HE.out]; exact HPA.out⟩
              case measure => simp [intOf]; omega
            have e : atK l0 (t + 1) = out ++ [⟨p.f0, p.f1⟩] := by rw [hsu.out]; unfold stepK; rw [if_neg (by omega)]
            have HE := Aside0.mk e
            have e2 : (out.map (·.f0)).count p.f0 = 0 := by omega
            have e3 : (out.map (·.f1)).count p.f1 = 0 := by omega
            rw [e2] at r1
            rw [e3] at r2
            clear e hsu hout
            have sa : dsz (out.map (·.f0)) < maxLen := by have := dsz_le (out.map (·.f0)); rw [List.length_map] at this; unfold maxLen; omega
            have sb : dsz (out.map (·.f1)) < maxLen := by have := dsz_le (out.map (·.f1)); rw [List.length_map] at this; unfold maxLen; omega
            have hml : out.length + 1 ≤ maxLen := by unfold maxLen; omega
            have hml2 : (out.length + 1) * 16 ≤ 140737488355328 := by omega
            go_wp2_with (first
              | (at_mapUpdate; refine store_arm lawI Try.underlying72 Try.underlying3 rfl _ _ _ rfl _ _ _ rfl HPA.out.ma sa _ _ rfl (keyI hwf.1) _ rfl (by decide) ?_; intro w3 hm1 hg1; obtain ⟨c30, c31, hbx3, hmb3⟩ := HPA.out.put1 hbx hg1; have r3 := look_run hmb3 hwf.2; rw [e3] at r3; have HO3 := Aside0.mk (own_kept HOA.out HPA.out.ma hg1))
              | (at_mapUpdate; refine store_arm lawI Try.underlying72 Try.underlying3 rfl _ _ _ rfl _ _ _ rfl hmb3 sb _ _ rfl (keyI hwf.2) _ rfl (by decide) ?_; intro w4 hm2 hg2; obtain ⟨c40, c41⟩ := put2 hmb3 hbx3 hg2; have HO4 := Aside0.mk (own_kept HO3.out hmb3 hg2); have hz4 : w2.heap.size ≤ (w4.alloc (.cells #[.int .i64 p.f0, .int .i64 p.f1] 37)).heap.size := by rw [heapsz_alloc]; have := hg1.size; have := hg2.size; have := HPA.out.hb.size; omega)
              | (at_builtin; refine wpList_append_own _ rfl _ _ 28 rfl w2.heap.size 37 j0 _ 2 16 Try.underlying28 hj hy0 hy1 hy2 rfl (by decide) _ _ _ rfl (HO4.out.alloc _) ⟨w4.heap.size, 0, none⟩ 1 1 [.int .i64 p.f0, .int .i64 p.f1] rfl rfl (cell_at2 _ _ _ _ _ rfl) (by simp [Value.oneCell']) hml hml2 hz4 ?_; intro v' w5 hown' hgrow _))
            have hn := HPA.out.next hm1 hg1 hm2 hg2 HO4.out hgrow e2 e3
            have el : (out ++ [(⟨p.f0, p.f1⟩ : PS)]).length = out.length + 1 := by simp
            rw [← cellsP_snoc out ⟨p.f0, p.f1⟩, ← el] at hown'
            go_roundw
            case rel => exact ⟨v', _, .int .i64 ((t : Int) + 1), ⟨t + 1, by go_num, by omega, by rw [HE.out]; exact hown', by rw [HE.out]; exact hn⟩, rfl, rfl, rfl⟩
            case measure => simp [intOf]; omega
          · obtain rfl : t = l0.length := by omega
            have HPK := Aside0.mk hpk
            have ho' : wr.ownsRow w2.heap.size 37 2 u8 (pickL l0).length (cellsP (pickL l0)) := by rw [← atK_all]; exact ho
            have hnd := atK_nd l0 l0.length
            have hlp := atK_len l0 l0.length
            rw [atK_all] at hnd hlp
            have HO := Aside0.mk ho'
            have HN := Aside0.mk hnd
            clear ho ho' hpk hnd
            go_wp2_with (first
              | (go_at_call 63; (with_reducible refine (sortP_calls (pickL l0) _ w2.heap.size _ HO.out (by omega) HN.out).mono ?_); rintro e w6 ⟨rfl, ho6, hb6⟩))
            simp only [Exit.noGoto]
            refine bodyPost_ret (results_tmp rfl _ _ _) rfl ?_
            have hl6 : (pickR l0).length = (pickL l0).length := by unfold pickR; rw [foldl_put_len]; simp
            have ho7 : w6.ownsRow w2.heap.size 37 2 u8 (pickR l0).length (cellsP (pickR l0)) := by rw [hl6]; exact ho6
            rw [← H.out]
            exact ⟨_, rfl, Kd.R_lower (R_pairs ho7) HW.out.size, HW.out.trans ((HPK.out.hb.trans hb6).mono HW.out.size)⟩
  · exact nomatch h
end Go.Proofs.Ytoefeboikkhdkaa.X.Gr
end
section
namespace Go.Proofs.Ytoefeboikkhdkaa.X
open Go.RowKit Go.WideMaps Go.Maps Go.ChangeMaps Go.Shelf Go.Proofs.YtoefeboikkhdkaaW.PrintWords Go.Proofs.YtoefeboikkhdkaaW.PrintLast Go.Proofs.YtoefeboikkhdkaaW.PrintMore Go.Proofs.Ytoefeboikkhdkaa.GMap
set_option linter.unusedVariables false
set_option linter.unusedSimpArgs false
attribute [local go_sem] Oper.semAt_some
/-- Texts that may be. -/
def okCells (rows : List (List ByteArray)) : Bool := rows.all fun r => r.all fun s => decide (s.size ≤ maxLen)
theorem okCells_col {hd : List ByteArray} {rows : List (List ByteArray)} (h : okCells rows = true) (hr : rows.length ≤ 1000) (c : Int) : Ba.okS (columnT hd rows c) = true := by
  have hl := columnT_len hd rows c
  unfold Ba.okS
  rw [Bool.and_eq_true]
  refine ⟨decide_eq_true (by omega), List.all_eq_true.2 fun s hs => decide_eq_true ?_⟩
  unfold columnT at hs
  split at hs
  · cases hs
  · unfold colT at hs
    obtain ⟨i, hi, rfl⟩ := List.mem_map.1 hs
    have hir := List.mem_range.1 hi
    unfold cellT
    split
    · exact Nat.zero_le _
    · rename_i hn
      have e : ((i : Nat) : Int).toNat = i := rfl
      rw [e] at hn ⊢
      have hg : rows.getD i [] = rows[i] := by rw [List.getD_eq_getElem?_getD, List.getElem?_eq_getElem hir]; rfl
      rw [hg] at hn ⊢
      have h1 := List.all_eq_true.1 (List.all_eq_true.1 h _ (List.getElem_mem hir))
      have hc : c.toNat < (rows[i]).length := by omega
      show (rdOf ByteArray.empty rows[i] c).size ≤ maxLen
      have hrd : rdOf ByteArray.empty rows[i] c = (rows[i])[c.toNat] := by unfold rdOf; rw [List.getD_eq_getElem?_getD, List.getElem?_eq_getElem hc]; rfl
      rw [hrd]
      exact of_decide_eq_true (h1 _ (List.getElem_mem hc))
/-- How much two columns have in common. -/
def scoreT (ha : List ByteArray) (ra : List (List ByteArray)) (hb : List ByteArray) (rb : List (List ByteArray)) (x : Int × Int) : Int := Ba.ovl (columnT ha ra x.1) (fun k => Ba.cnt (columnT hb rb x.2) k)
def chR (ha : List ByteArray) (ra : List (List ByteArray)) (hb : List ByteArray) (rb : List (List ByteArray)) (x : Int × Int) : List Gr.SC := if mayR (scoreT ha ra hb rb x) ra.length rb.length = true then [⟨x.1, x.2, scoreT ha ra hb rb x⟩] else []
def chosR (ha : List ByteArray) (ra : List (List ByteArray)) (hb : List ByteArray) (rb : List (List ByteArray)) (l : List (Int × Int)) : List Gr.SC := l.flatMap (chR ha ra hb rb)
theorem chosR_snoc (ha : List ByteArray) (ra : List (List ByteArray)) (hb : List ByteArray) (rb : List (List ByteArray)) (l : List (Int × Int)) (x : Int × Int) : chosR ha ra hb rb (l ++ [x]) = chosR ha ra hb rb l ++ chR ha ra hb rb x := by simp [chosR]
theorem chosR_len (ha : List ByteArray) (ra : List (List ByteArray)) (hb : List ByteArray) (rb : List (List ByteArray)) : ∀ l : List (Int × Int), (chosR ha ra hb rb l).length ≤ l.length
  | [] => Nat.zero_le _
  | x :: l => by
    show (chR ha ra hb rb x ++ chosR ha ra hb rb l).length ≤ _
    have h1 := chosR_len ha ra hb rb l
    have h2 : (chR ha ra hb rb x).length ≤ 1 := by unfold chR; split <;> simp
    rw [List.length_append, List.length_cons]
    omega
theorem leftR_len (ps qs : List Int) : (leftR ps qs).length = ps.length * qs.length := by
  unfold leftR
  induction ps with
  | nil => simp
  | cons p ps ih => rw [List.flatMap_cons, List.length_append, ih, List.length_map, List.length_cons, Nat.succ_mul]; omega
/-- What Align tells, if renaming is asked for, of the columns of the same name. -/
def alignK (ha : List ByteArray) (ra : List (List ByteArray)) (hb : List ByteArray) (rb : List (List ByteArray)) (l : List PS) : Option (List PS) :=
  (pairs_RestA.f l ha.length).bind fun ps => (pairs_RestB.f l hb.length).bind fun qs =>
    if (okCells ra = true ∧ okCells rb = true) ∧ (ra.length ≤ 1000 ∧ rb.length ≤ 1000) ∧ ps.length ≤ 300 ∧ qs.length ≤ 300 ∧ l.length ≤ 300 then
      (Gr.greedy_Pick.f (chosR ha ra hb rb (leftR ps qs))).bind fun m => if m.length ≤ 10000 then some (turnR (turnR (l ++ m))) else none
    else none
def cols_Align.f (ha : List ByteArray) (ra : List (List ByteArray)) (hb : List ByteArray) (rb : List (List ByteArray)) (rename : Bool) : Option (List PS × Int) :=
  if okT ha ra = true ∧ okT hb rb = true then
    if checkT ha ra ≠ 0 then some ([], checkT ha ra) else if checkT hb rb ≠ 0 then some ([], checkT hb rb) else
      (cols_Named.f 4000 ha ra hb rb).bind fun l => if rename = true then (alignK ha ra hb rb l).bind fun r => some (r, 0) else some (l, 0)
  else none
theorem own_below {W W' : World} {base n size : Nat} {e : TypeId} {v : Value} {xs : List Value} (h : W.ownsRow base e size v n xs) (hb : Below W.heap.size W W') : W'.ownsRow base e size v n xs := own_move h (fun k hk => hb.block k (h.lt k hk).2)
/-- What lies for Align: its two tables, and the list of them. -/
structure AlS (n0 : Nat) (w : World) (V0 V1 V2 V3 : Value) (W : World) : Prop where
  a : W.heap[n0]? = some (.cells #[V0, V1] 25 (0, 0))
  b : W.heap[n0 + 1]? = some (.cells #[V2, V3] 25 (0, 0))
  r : W.heap[n0 + 1 + 1]? = some (.cells #[V0, V1, V2, V3] 25 (0, 0))
  lo : Below n0 w W
theorem AlS.below {n0 : Nat} {w W W' : World} {V0 V1 V2 V3 : Value} (h : AlS n0 w V0 V1 V2 V3 W) (hb : Below W.heap.size W W') : AlS n0 w V0 V1 V2 V3 W' :=
  ⟨(hb.block _ (lt_of_block h.a)).trans h.a, (hb.block _ (lt_of_block h.b)).trans h.b, (hb.block _ (lt_of_block h.r)).trans h.r, h.lo.trans (hb.mono (Nat.le_of_lt (lt_of_block h.a)))⟩
set_option maxRecDepth 100000 in
set_option maxHeartbeats 8000000 in
theorem align_calls (A0 : Option Addr) (c0 : Nat) (ha : List ByteArray) (A1 : Option Addr) (c1 : Nat) (ra : List (List ByteArray)) (A2 : Option Addr) (c2 : Nat) (hb : List ByteArray) (A3 : Option Addr) (c3 : Nat) (rb : List (List ByteArray)) (a2 : Bool) (r1 : List PS) (r2 : Int) (w : World)
    (hr0 : Kd.C Kd.string w A0 ha.length ha) (hc0 : ha.length ≤ c0) (hr1 : Kd.C (Kd.slice 9 Kd.string) w A1 ra.length ra) (hc1 : ra.length ≤ c1) (hr2 : Kd.C Kd.string w A2 hb.length hb) (hc2 : hb.length ≤ c2) (hr3 : Kd.C (Kd.slice 9 Kd.string) w A3 rb.length rb) (hc3 : rb.length ≤ c3)
    (hok : okT ha ra = true) (hok2 : okT hb rb = true) (h : cols_Align.f ha ra hb rb a2 = some (r1, r2)) :
    Calls Try.prog 10 #[.agg #[.slice A0 ha.length c0, .slice A1 ra.length c1], .agg #[.slice A2 hb.length c2, .slice A3 rb.length c3], .bool a2] w fun e w' => ∃ v0_ : Value, e = .returned (.tuple #[v0_, .int .i64 r2]) ∧ Kd.R k37 37 w' w.heap.size (fun _ => True) v0_ r1 ∧ Below w.heap.size w w' := by
  refine (callsIn_wide (n := 4)).1 ?_
  have HR0 := Aside0.mk hr0
  have HR1 := Aside0.mk hr1
  have HR2 := Aside0.mk hr2
  have HR3 := Aside0.mk hr3
  have HOA := Aside0.mk hok
  have HOB := Aside0.mk hok2
  have H := Aside0.mk h
  clear hr0 hr1 hr2 hr3 hok hok2 h
  refine callsIn_of_wp_marks Try.func10 rfl trivial ?_ rfl
  simp only [Try.ntmps10, List.size_toArray, List.length_cons, List.length_nil, Nat.reduceAdd, Nat.reduceSub, Array.replicate_succ, Array.replicate_zero, List.push_toArray, List.append_toArray, List.nil_append, List.cons_append]
  gi_wp2
  obtain ⟨n0, hn0⟩ : ∃ n0, n0 = w.heap.size := ⟨_, rfl⟩
  obtain ⟨WS, hWS⟩ : ∃ WS, WS = ((w.alloc (Obj.cells #[Value.slice A0 ha.length c0, Value.slice A1 ra.length c1] 25)).alloc (Obj.cells #[Value.slice A2 hb.length c2, Value.slice A3 rb.length c3] 25)).alloc (Obj.cells #[Value.slice A0 ha.length c0, Value.slice A1 ra.length c1, Value.slice A2 hb.length c2, Value.slice A3 rb.length c3] 25) := ⟨_, rfl⟩
  have hS0 : AlS n0 w (.slice A0 ha.length c0) (.slice A1 ra.length c1) (.slice A2 hb.length c2) (.slice A3 rb.length c3) WS := by
    subst hn0
    have h1 := blk_new w (Obj.cells #[Value.slice A0 ha.length c0, Value.slice A1 ra.length c1] 25)
    have h2 := blk_new (w.alloc (Obj.cells #[Value.slice A0 ha.length c0, Value.slice A1 ra.length c1] 25)) (Obj.cells #[Value.slice A2 hb.length c2, Value.slice A3 rb.length c3] 25)
    have h3 := blk_new ((w.alloc (Obj.cells #[Value.slice A0 ha.length c0, Value.slice A1 ra.length c1] 25)).alloc (Obj.cells #[Value.slice A2 hb.length c2, Value.slice A3 rb.length c3] 25)) (Obj.cells #[Value.slice A0 ha.length c0, Value.slice A1 ra.length c1, Value.slice A2 hb.length c2, Value.slice A3 rb.length c3] 25)
    rw [World.size_alloc] at h2
    rw [World.size_alloc, World.size_alloc] at h3
    rw [hWS]
    exact ⟨blk_alloc (blk_alloc h1 _) _, blk_alloc h2 _, h3, below_alloc (below_alloc (below_alloc (Below.refl _ _) _) _) _⟩
  have HS0 := Aside0.mk hS0
  have HN0 := Aside0.mk hn0
  rw [← hWS, ← hn0]
  clear hS0 hWS hn0
  obtain ⟨ea, hea⟩ : ∃ ea, ea = checkT ha ra := ⟨_, rfl⟩
  obtain ⟨eb, heb⟩ : ∃ eb, eb = checkT hb rb := ⟨_, rfl⟩
  have HCA := Aside0.mk (show table_Check.f ha ra = some ea by rw [hea]; exact if_pos HOA.out)
  have HCB := Aside0.mk (show table_Check.f hb rb = some eb by rw [heb]; exact if_pos HOB.out)
  have h := H.out
  unfold cols_Align.f at h
  rw [if_pos ⟨HOA.out, HOB.out⟩, ← hea, ← heb] at h
  replace H := Aside0.mk h
  clear h hea heb HOA HOB
  gi_loopw [21] (fun vi wr => ∃ i : Nat, vi = .int .i64 i ∧ i ≤ 2 ∧ Aside0 (AlS n0 w (.slice A0 ha.length c0) (.slice A1 ra.length c1) (.slice A2 hb.length c2) (.slice A3 rb.length c3) wr) ∧ Aside0 ((0 < i → ea = 0) ∧ (1 < i → eb = 0)))
    (fun vi _ => 2 - (intOf vi).toNat)
  case atStart => exact ⟨0, rfl, by omega, HS0, ⟨fun h => by omega, fun h => by omega⟩⟩
  case round =>
    clear HS0
    obtain ⟨i, rfl, hi, HS, HZ⟩ := hrel
    have h5 : i = 0 ∨ i = 1 ∨ i = 2 := by omega
    rcases h5 with rfl | rfl | rfl
    · have hq0 := blk_cell HS.out.r 0
      have hq1 := blk_cell HS.out.r 1
      by_cases hz : ea = 0
      · subst hz
        gi_wp2_with (refine ⟨trivial, ?_⟩; gi_at_call 15; refine (callsIn_wide.2 (table_Check.calls A0 c0 ha A1 c1 ra 0 _ (Kd.C_alloc (Kd.C_below HR0.out (HN0.out ▸ HS.out.lo)) _) hc0 (Kd.C_alloc (Kd.C_below HR1.out (HN0.out ▸ HS.out.lo)) _) hc1 HCA.out)).mono ?_; rintro e w1 ⟨rfl, hb1⟩)
        go_roundw
        case rel =>
          exact ⟨1, by go_num, by omega, ⟨HS.out.below ((below_alloc (Below.refl _ _) _).trans (hb1.mono (by simp)))⟩, ⟨fun _ => trivial, fun h => by omega⟩⟩
        case measure => simp [intOf]
      · have hz0 : (ea == (0 : Int)) = false := beq_eq_false_iff_ne.2 hz
        have hr : r1 = [] ∧ r2 = ea := by have h := H.out; rw [if_pos hz] at h; simp only [Option.some.injEq, Prod.mk.injEq] at h; exact ⟨h.1.symm, h.2.symm⟩
        gi_wp2_with (refine ⟨trivial, ?_⟩; gi_at_call 15; refine (callsIn_wide.2 (table_Check.calls A0 c0 ha A1 c1 ra ea _ (Kd.C_alloc (Kd.C_below HR0.out (HN0.out ▸ HS.out.lo)) _) hc0 (Kd.C_alloc (Kd.C_below HR1.out (HN0.out ▸ HS.out.lo)) _) hc1 HCA.out)).mono ?_; rintro e w1 ⟨rfl, hb1⟩)
        refine ⟨_, results_tmp2 rfl _ _ _, .slice none 0 0, by rw [hr.2]; rfl, by rw [hr.1]; exact Kd.R_nil _ _ _ _ _, ?_⟩
        have hlo := HS.out.lo
        rw [HN0.out] at hlo
        exact hlo.trans (((below_alloc (Below.refl _ _) _).trans (hb1.mono (by simp))).mono hlo.size)
    · have hq0 := blk_cell HS.out.r 2
      have hq1 := blk_cell HS.out.r 3
      by_cases hz : eb = 0
      · subst hz
        gi_wp2_with (refine ⟨trivial, ?_⟩; gi_at_call 15; refine (callsIn_wide.2 (table_Check.calls A2 c2 hb A3 c3 rb 0 _ (Kd.C_alloc (Kd.C_below HR2.out (HN0.out ▸ HS.out.lo)) _) hc2 (Kd.C_alloc (Kd.C_below HR3.out (HN0.out ▸ HS.out.lo)) _) hc3 HCB.out)).mono ?_; rintro e w1 ⟨rfl, hb1⟩)
        go_roundw
        case rel =>
          exact ⟨2, by go_num, by omega, ⟨HS.out.below ((below_alloc (Below.refl _ _) _).trans (hb1.mono (by simp)))⟩, ⟨fun _ => HZ.out.1 (by omega), fun _ => trivial⟩⟩
        case measure => simp [intOf]
      · have hz0 : (eb == (0 : Int)) = false := beq_eq_false_iff_ne.2 hz
        have hr : r1 = [] ∧ r2 = eb := by have h := H.out; rw [if_neg (by simp [HZ.out.1 (by omega)]), if_pos hz] at h; simp only [Option.some.injEq, Prod.mk.injEq] at h; exact ⟨h.1.symm, h.2.symm⟩
        gi_wp2_with (refine ⟨trivial, ?_⟩; gi_at_call 15; refine (callsIn_wide.2 (table_Check.calls A2 c2 hb A3 c3 rb eb _ (Kd.C_alloc (Kd.C_below HR2.out (HN0.out ▸ HS.out.lo)) _) hc2 (Kd.C_alloc (Kd.C_below HR3.out (HN0.out ▸ HS.out.lo)) _) hc3 HCB.out)).mono ?_; rintro e w1 ⟨rfl, hb1⟩)
        refine ⟨_, results_tmp2 rfl _ _ _, .slice none 0 0, by rw [hr.2]; rfl, by rw [hr.1]; exact Kd.R_nil _ _ _ _ _, ?_⟩
        have hlo := HS.out.lo
        rw [HN0.out] at hlo
        exact hlo.trans (((below_alloc (Below.refl _ _) _).trans (hb1.mono (by simp))).mono hlo.size)
    · have hea := HZ.out.1 (by omega)
      have heb := HZ.out.2 (by omega)
      have h := H.out
      rw [if_neg (by simp [hea]), if_neg (by simp [heb])] at h
      obtain ⟨l, hl, h⟩ := Option.bind_eq_some_iff.1 h
      have HL := Aside0.mk hl
      have HH := Aside0.mk h
      have hq0 := blk_cell HS.out.a 0
      have hq1 := blk_cell HS.out.a 1
      have hq2 := blk_cell HS.out.b 0
      have hq3 := blk_cell HS.out.b 1
      clear h hl H hea heb
      cases a2 with
      | false =>
        gi_wp2_with (refine ⟨trivial, ?_⟩; gi_at_call 13; refine (callsIn_wide.2 (cols_Named.calls 4000 A0 c0 ha A1 c1 ra A2 c2 hb A3 c3 rb l _ (Kd.C_below HR0.out (HN0.out ▸ HS.out.lo)) hc0 (Kd.C_below HR1.out (HN0.out ▸ HS.out.lo)) hc1 (Kd.C_below HR2.out (HN0.out ▸ HS.out.lo)) hc2 (Kd.C_below HR3.out (HN0.out ▸ HS.out.lo)) hc3 HL.out)).mono ?_; rintro e w1 ⟨v1, rfl, ho1, hb1⟩)
        have hlo := HS.out.lo
        rw [HN0.out] at hlo
        have h := HH.out
        simp only [Bool.false_eq_true, if_false, Option.some.injEq, Prod.mk.injEq] at h
        obtain ⟨rfl, rfl⟩ := h
        exact ⟨_, results_tmp2 rfl _ _ _, _, rfl, Kd.R_lower ho1 hlo.size, hlo.trans (hb1.mono hlo.size)⟩
      | true =>
        have h := HH.out
        rw [if_pos rfl] at h
        obtain ⟨rr, hrr, h⟩ := Option.bind_eq_some_iff.1 h
        simp only [Option.some.injEq, Prod.mk.injEq] at h
        obtain ⟨rfl, rfl⟩ := h
        unfold alignK at hrr
        obtain ⟨ps, hps, hrr⟩ := Option.bind_eq_some_iff.1 hrr
        obtain ⟨qs, hqs, hrr⟩ := Option.bind_eq_some_iff.1 hrr
        split at hrr
        · rename_i hgd
          obtain ⟨mm, hmm, hrr⟩ := Option.bind_eq_some_iff.1 hrr
          split at hrr
          · rename_i hml
            obtain rfl := Option.some.inj hrr
            have HPS := Aside0.mk hps
            have HQS := Aside0.mk hqs
            have HMM := Aside0.mk hmm
            have HGD := Aside0.mk hgd
            have HML := Aside0.mk hml
            clear hrr hps hqs hmm hgd hml HH
            gi_wp2_with (first
              | (refine ⟨trivial, ?_⟩; gi_at_call 13; refine (callsIn_wide.2 (cols_Named.calls 4000 A0 c0 ha A1 c1 ra A2 c2 hb A3 c3 rb l _ (Kd.C_below HR0.out (HN0.out ▸ HS.out.lo)) hc0 (Kd.C_below HR1.out (HN0.out ▸ HS.out.lo)) hc1 (Kd.C_below HR2.out (HN0.out ▸ HS.out.lo)) hc2 (Kd.C_below HR3.out (HN0.out ▸ HS.out.lo)) hc3 HL.out)).mono ?_; rintro e w1 ⟨v1, rfl, ho1, hb1⟩; obtain ⟨Al, cl, rfl⟩ := Kd.R_slice ho1; have HO1 := Aside0.mk ho1; have HB1 := Aside0.mk hb1; have HS1 := Aside0.mk (HS.out.below hb1); clear ho1 hb1 hq0 hq1 hq2 hq3; have hq0 : ∀ o1 o2, ((w1.alloc o1).alloc o2).cell? ⟨n0, 0, none⟩ = some (.slice A0 ha.length c0) := fun _ _ => blk_cell (blk_alloc (blk_alloc HS1.out.a _) _) 0; have hq2 : ∀ o1 o2, ((w1.alloc o1).alloc o2).cell? ⟨n0 + 1, 0, none⟩ = some (.slice A2 hb.length c2) := fun _ _ => blk_cell (blk_alloc (blk_alloc HS1.out.b _) _) 0)
              | (refine ⟨trivial, ?_⟩; gi_at_call 23; refine (callsIn_wide.2 (left_calls _ _ _ _ _ _)).mono ?_; rintro e w5 ⟨Bl, Bx, By, rfl, hBl, hBa, hBb, hge, hb5⟩))
            rw [World.size_alloc, World.size_alloc] at hge
            have hb0 := below_alloc (below_alloc (Below.refl w1.heap.size w1) (Obj.cells #[Value.func (.func 22) #[] #[.pointer (some ⟨n0, 0, none⟩), .pointer (some ⟨n0 + 1, 0, none⟩)]] 49)) (Obj.cells #[Value.slice none 0 0] 50)
            have hbw : Below w1.heap.size w1 w5 := hb0.trans (hb5.mono (by simp; omega))
            have bF : Boxed w5 w1.heap.size 49 (Value.func (.func 22) #[] #[.pointer (some ⟨n0, 0, none⟩), .pointer (some ⟨n0 + 1, 0, none⟩)]) := (hb5.block _ (by simp; omega)).trans (blk_alloc (blk_new w1 _) _)
            have bO : Boxed w5 (w1.heap.size + 1) 50 (.slice none 0 0) := (hb5.block _ (by simp)).trans (by
              have h := blk_new (w1.alloc (Obj.cells #[Value.func (.func 22) #[] #[.pointer (some ⟨n0, 0, none⟩), .pointer (some ⟨n0 + 1, 0, none⟩)]] 49)) (Obj.cells #[Value.slice none 0 0] 50)
              rw [World.size_alloc] at h
              exact h)
            have lB := bO.lt
            have hS5 : LeftS w1 Al cl l ha.length hb.length Bl Bx By w5 := ⟨hBl, hBa, hBb, hbw⟩
            obtain ⟨hgc, hgr, hgp, hgq, hgl⟩ := HGD.out
            have hll : (leftR ps qs).length ≤ 90000 := by rw [leftR_len]; exact Nat.le_trans (Nat.mul_le_mul hgp hgq) (by decide)
            obtain ⟨i0, hi0, hz0, hz1, hz2⟩ := info_parts info57
            refine wpIn_rangeFunc_ownG rfl (by omega) (gf := 54) (lb := #[.pointer (some ⟨Bl, 0, none⟩), .pointer (some ⟨Bx, 0, none⟩), .pointer (some ⟨By, 0, none⟩)]) rfl trivial (enters_of Try.func54 (by kernel_rfl) rfl)
              (left_stops w1 (w1.heap.size + 1) Al cl l _ _ Bl Bx By 3 ps qs (Kd.R_reads' HO1.out).2.2 (Kd.R_reads' HO1.out).2.1 HPS.out HQS.out (by omega) (by omega) (by omega) w5 hS5 ⟨by omega, by omega, by omega⟩ lB)
              (fun {A B C} h k => h.trans k)
              (fun W l o o' hl h1 h2 h3 => KpW.put (w := w5) hbw.size W l o o' hl h1 h2 h3)
              (Below.refl _ _) (fun _ => rfl)
              (fun pre W => ((∃ v, Boxed W (w1.heap.size + 1) 50 v ∧ W.ownsRow w5.heap.size 57 3 v (chosR ha ra hb rb pre).length (Gr.cellsC (chosR ha ra hb rb pre)) ∧ True) ∧ Boxed W w1.heap.size 49 (Value.func (.func 22) #[] #[.pointer (some ⟨n0, 0, none⟩), .pointer (some ⟨n0 + 1, 0, none⟩)])) ∧ Below w1.heap.size w1 W ∧ w5.heap.size ≤ W.heap.size)
              (fun _ _ _ => False)
              (OwnFrom.and (OwnFrom.and (Own.from (holdsRow_own w5.heap.size (w1.heap.size + 1) 50 57 3 (fun pre : List (Int × Int) => (chosR ha ra hb rb pre).length) (fun pre => Gr.cellsC (chosR ha ra hb rb pre)) (fun _ _ => True)) _) (Own.from (boxed_own w1.heap.size 49 (fun _ : List (Int × Int) => (Value.func (.func 22) #[] #[.pointer (some ⟨n0, 0, none⟩), .pointer (some ⟨n0 + 1, 0, none⟩)]))) _)) (OwnFrom.and (ownFrom_below (Nat.le_refl _) hbw.size) (fun s A B row hs hg hr => Nat.le_trans hs hg.size)))
              (fun _ _ _ _ _ hs _ _ => hs)
              ⟨⟨⟨_, bO, World.ownsRow_nil _ _ _ _, trivial⟩, bF⟩, hbw, Nat.le_refl _⟩
              (fun x : Int × Int => { tmps := #[.agg #[.slice A0 ha.length c0, .slice A1 ra.length c1], .agg #[.slice A2 hb.length c2, .slice A3 rb.length c3], .bool true, .pointer (some ⟨n0, 0, none⟩), .pointer (some ⟨n0 + 1, 0, none⟩), undef, u6, u7, undef, u9, u10, .slice Al l.length cl, .pointer (some ⟨w1.heap.size, 0, none⟩), .pointer (some ⟨w1.heap.size + 1, 0, none⟩), .int .i64 x.1, .int .i64 x.2, undef,
                .agg #[.slice A0 ha.length c0, .slice A1 ra.length c1], .agg #[.slice A2 hb.length c2, .slice A3 rb.length c3], .slice (some ⟨n0 + 1 + 1, 0, none⟩) 2 2, .int .i64 2, .int .i64 2, .bool false, u23, u24, u25, u26, u27, u28, u29, u30, .agg #[.slice A0 ha.length c0, .slice A1 ra.length c1], .agg #[.slice A2 hb.length c2, .slice A3 rb.length c3], .slice Al l.length cl, .bool true, .bool false, undef,
                .func (.func 22) #[] #[.pointer (some ⟨n0, 0, none⟩), .pointer (some ⟨n0 + 1, 0, none⟩)], .slice Al l.length cl, .pointer (some ⟨n0, 0, none⟩), .slice A0 ha.length c0, .int .i64 ha.length, .pointer (some ⟨n0 + 1, 0, none⟩), .slice A2 hb.length c2, .int .i64 hb.length,
                .func (.func 54) #[] #[.pointer (some ⟨Bl, 0, none⟩), .pointer (some ⟨Bx, 0, none⟩), .pointer (some ⟨By, 0, none⟩)], .int .i64 x.1, .int .i64 x.2, undef, undef, undef, undef, undef, undef, undef, undef, undef, undef, undef, undef, undef, undef, undef, undef, undef, undef, undef, undef, undef], defers := [] }) ?assign ?body ?done ?stop
            case assign =>
              intro lp x W K hK
              gi_wp2
              exact hK
            case body =>
              rintro lp pre ⟨x0, x1⟩ W ⟨⟨⟨v, hv, hrow, _⟩, hF⟩, hB, hsz⟩ hlt
              have hSW : AlS n0 w (.slice A0 ha.length c0) (.slice A1 ra.length c1) (.slice A2 hb.length c2) (.slice A3 rb.length c3) W := HS1.out.below hB
              have HCa := Aside0.mk (col_some ha ra x0 hgr.1 (k := 2000) (by omega))
              have HCb := Aside0.mk (col_some hb rb x1 hgr.2 (k := 2000) (by omega))
              have HSc : Aside0 (Ba.bag_Overlap.f (columnT ha ra x0) (columnT hb rb x1) = some (scoreT ha ra hb rb (x0, x1))) := ⟨if_pos (by rw [okCells_col hgc.1 hgr.1, okCells_col hgc.2 hgr.2]; rfl)⟩
              have HSW := Aside0.mk hSW
              have HCH : Aside0 (chR ha ra hb rb (x0, x1) = if mayR (scoreT ha ra hb rb (x0, x1)) ra.length rb.length = true then [⟨x0, x1, scoreT ha ra hb rb (x0, x1)⟩] else []) := ⟨rfl⟩
              generalize scoreT ha ra hb rb (x0, x1) = sc at HSc HCH
              gi_wp2
              refine startIn_ (n := 8) (S := fun w' => w'.cell? ⟨n0, 0, none⟩ = some (.slice A0 ha.length c0) ∧ w'.cell? ⟨n0, 1, none⟩ = some (.slice A1 ra.length c1) ∧ w'.cell? ⟨n0 + 1, 0, none⟩ = some (.slice A2 hb.length c2) ∧ w'.cell? ⟨n0 + 1, 1, none⟩ = some (.slice A3 rb.length c3)) (ds := []) #[false, false, false, false, false, false, false, false] (by kernel_rfl) rfl rfl (by kernel_rfl) ⟨(blk_cell hSW.a 0).trans rfl, (blk_cell hSW.a 1).trans rfl, (blk_cell hSW.b 0).trans rfl, (blk_cell hSW.b 1).trans rfl⟩ (fun hHeld => ?_)
              · have HSD := Aside0.mk (HSW.out.below (below_drew (Below.refl _ _)))
                have hBD : Below W.heap.size W W.drew := below_drew (Below.refl _ _)
                generalize W.drew = WD at *
                refine pure_ (i := 1) (N := some 49) (v := ?_) (a' := ?_) #[false, true, false, false, false, false, false, false] rfl rfl (by kernel_rfl) (fun _ _ _ h => h) (Or.inl ⟨by rfl, ?_⟩) ?_ ?_
                rotate_left
                · intro w'
                  go_simp
                  with_reducible rfl
                rotate_left
                · simp only [Act.put, List.setIfInBounds_toArray, List.set_cons_zero, List.set_cons_succ]
                  rfl
                refine pure_ (i := 4) (N := some 52) (v := ?_) (a' := ?_) #[false, true, false, false, true, false, false, false] rfl rfl (by kernel_rfl) (fun _ _ _ h => h) (Or.inl ⟨by rfl, ?_⟩) ?_ ?_
                rotate_left
                · intro w'
                  go_simp
                  with_reducible rfl
                rotate_left
                · simp only [Act.put, List.setIfInBounds_toArray, List.set_cons_zero, List.set_cons_succ]
                  rfl
                refine take_ (i := 0) (N := some 48) (v := ?_) (a' := ?_) #[true, true, false, false, true, false, false, false] rfl rfl (by kernel_rfl) (fun _ _ _ h => h) (Or.inl ⟨by rfl, ?_⟩) hHeld ?_ ?_
                rotate_left
                · rintro w' ⟨s0, s1, s2, s3⟩
                  go_simp
                  with_reducible rfl
                rotate_left
                · simp only [Act.put, List.setIfInBounds_toArray, List.set_cons_zero, List.set_cons_succ]
                  rfl
                refine take_ (i := 3) (N := some 51) (v := ?_) (a' := ?_) #[true, true, false, true, true, false, false, false] rfl rfl (by kernel_rfl) (fun _ _ _ h => h) (Or.inl ⟨by rfl, ?_⟩) hHeld ?_ ?_
                rotate_left
                · rintro w' ⟨s0, s1, s2, s3⟩
                  go_simp
                  with_reducible rfl
                rotate_left
                · simp only [Act.put, List.setIfInBounds_toArray, List.set_cons_zero, List.set_cons_succ]
                  rfl
                refine one_ (i := 2) (N := some 50) #[true, true, true, true, true, false, false, false] rfl rfl (by kernel_rfl) (by decide) (fun K hK => ?_)
                refine goes_ Try.func25 (by kernel_rfl) rfl #[.agg #[.slice A0 ha.length c0, .slice A1 ra.length c1], .int .i64 x0] (by rfl) rfl rfl (by (try simp only [List.map_toArray, List.map_cons, List.map_nil]); first | done | rfl) ?_
                refine (table_Column.calls 2000 A0 c0 ha A1 c1 ra x0 (columnT ha ra x0) _ (Kd.C_below HR0.out (HN0.out ▸ HSD.out.lo)) hc0 (Kd.C_below HR1.out (HN0.out ▸ HSD.out.lo)) hc1 HCa.out).mono ?_
                rintro e w6 ⟨va, rfl, hoa, hb6⟩
                refine ⟨_, rfl, ?_⟩
                obtain ⟨Aa, ca, rfl⟩ := Kd.R_slice hoa
                have HS6 := Aside0.mk (HSD.out.below hb6)
                have HOa := Aside0.mk hoa
                have HB6 := Aside0.mk (hBD.trans (hb6.mono hBD.size))
                clear hoa hb6
                refine hK.out _ _ ⟨(blk_cell HS6.out.a 0).trans rfl, (blk_cell HS6.out.a 1).trans rfl, (blk_cell HS6.out.b 0).trans rfl, (blk_cell HS6.out.b 1).trans rfl⟩ (fun hHeld => ?_)
                clear hK K
                refine norm_ (a' := ?_) ?_ ?_
                rotate_left
                · show Act.put _ (some 50) _ = _
                  simp only [Act.put, List.setIfInBounds_toArray, List.set_cons_zero, List.set_cons_succ, i64_w, i32_w]
                  rfl
                refine one_ (i := 5) (N := some 53) #[true, true, true, true, true, true, false, false] rfl rfl (by kernel_rfl) (by decide) (fun K hK => ?_)
                refine goes_ Try.func25 (by kernel_rfl) rfl #[.agg #[.slice A2 hb.length c2, .slice A3 rb.length c3], .int .i64 x1] (by rfl) rfl rfl (by (try simp only [List.map_toArray, List.map_cons, List.map_nil]); first | done | rfl) ?_
                refine (table_Column.calls 2000 A2 c2 hb A3 c3 rb x1 (columnT hb rb x1) _ (Kd.C_below HR2.out (HN0.out ▸ HS6.out.lo)) hc2 (Kd.C_below HR3.out (HN0.out ▸ HS6.out.lo)) hc3 HCb.out).mono ?_
                rintro e w7 ⟨vb, rfl, hob, hb7⟩
                refine ⟨_, rfl, ?_⟩
                obtain ⟨Ab, cb, rfl⟩ := Kd.R_slice hob
                have HS7 := Aside0.mk (HS6.out.below hb7)
                have HOb := Aside0.mk hob
                have HOa7 := Aside0.mk (Kd.R_below HOa.out hb7)
                have HB7 := Aside0.mk (HB6.out.trans (hb7.mono HB6.out.size))
                clear hob hb7
                refine hK.out _ _ ⟨(blk_cell HS7.out.a 0).trans rfl, (blk_cell HS7.out.a 1).trans rfl, (blk_cell HS7.out.b 0).trans rfl, (blk_cell HS7.out.b 1).trans rfl⟩ (fun hHeld => ?_)
                clear hK K
                refine norm_ (a' := ?_) ?_ ?_
                rotate_left
                · show Act.put _ (some 53) _ = _
                  simp only [Act.put, List.setIfInBounds_toArray, List.set_cons_zero, List.set_cons_succ, i64_w, i32_w]
                  rfl
                refine one_ (i := 6) (N := some 54) #[true, true, true, true, true, true, true, false] rfl rfl (by kernel_rfl) (by decide) (fun K hK => ?_)
                refine goes_ Try.func24 (by kernel_rfl) rfl #[.slice Aa (columnT ha ra x0).length ca, .slice Ab (columnT hb rb x1).length cb] (by rfl) rfl rfl (by (try simp only [List.map_toArray, List.map_cons, List.map_nil]); first | done | rfl) ?_
                refine (Ba.bag_Overlap.calls Aa ca (columnT ha ra x0) Ab cb (columnT hb rb x1) sc _ (Kd.R_reads' HOa7.out).2.2 (Kd.R_reads' HOa7.out).2.1 (Kd.R_reads' HOb.out).2.2 (Kd.R_reads' HOb.out).2.1 HSc.out).mono ?_
                rintro e w8 ⟨rfl, hb8⟩
                refine ⟨_, rfl, ?_⟩
                have HS8 := Aside0.mk (HS7.out.below hb8)
                have HB8 := Aside0.mk (HB7.out.trans (hb8.mono HB7.out.size))
                clear hb8
                refine hK.out _ _ ⟨(blk_cell HS8.out.a 0).trans rfl, (blk_cell HS8.out.a 1).trans rfl, (blk_cell HS8.out.b 0).trans rfl, (blk_cell HS8.out.b 1).trans rfl⟩ (fun hHeld => ?_)
                clear hK K
                refine norm_ (a' := ?_) ?_ ?_
                rotate_left
                · show Act.put _ (some 54) _ = _
                  simp only [Act.put, List.setIfInBounds_toArray, List.set_cons_zero, List.set_cons_succ, i64_w, i32_w]
                  rfl
                refine pure_ (i := 7) (N := some 16) (v := ?_) (a' := ?_) #[true, true, true, true, true, true, true, true] rfl rfl (by kernel_rfl) (fun _ _ _ h => h) (Or.inl ⟨by rfl, ?_⟩) ?_ ?_
                rotate_left
                · intro w'
                  go_simp
                  with_reducible rfl
                rotate_left
                · simp only [Act.put, List.setIfInBounds_toArray, List.set_cons_zero, List.set_cons_succ]
                  rfl
                refine done_ (by kernel_rfl) ?_
                have hF8 : Boxed w8 w1.heap.size 49 _ := (HB8.out.block _ hF.lt).trans hF
                have hv8 : Boxed w8 (w1.heap.size + 1) 50 v := (HB8.out.block _ hv.lt).trans hv
                have hrow8 : w8.ownsRow w5.heap.size 57 3 v (chosR ha ra hb rb pre).length (Gr.cellsC (chosR ha ra hb rb pre)) := own_below hrow HB8.out
                have hcf := hF8.cell
                have hK8 : KeepsFrom w5.heap.size W w8 := ⟨HB8.out.size, fun k o _ hk _ => (HB8.out.block k (lt_of_block hk)).trans hk⟩
                have hlen := chosR_len ha ra hb rb pre
                have hmx : 100000 ≤ maxLen := by decide
                have hmy : (chosR ha ra hb rb pre).length + 1 ≤ maxLen := by omega
                have hmz : ((chosR ha ra hb rb pre).length + 1) * 24 ≤ 140737488355328 := by omega
                simp only [OnlyNormal]
                cases hm : mayR sc ra.length rb.length with
                | false =>
                  have hch : chosR ha ra hb rb (pre ++ [(x0, x1)]) = chosR ha ra hb rb pre := by rw [chosR_snoc, HCH.out, hm]; simp
                  gi_wp2_with (refine ⟨trivial, ?_⟩; gi_at_call 22; refine (CallsIn.inRound _ (callsIn_wide.2 (may_calls sc _ _ _ _ _ _ _ _ n0 (n0 + 1) _ HS8.out.a HS8.out.b))).mono ?_; rintro e w9 ⟨rfl, hb9⟩; rw [hm])
                  have hb19 : Below W.heap.size W w9 := HB8.out.trans (hb9.mono HB8.out.size)
                  refine ⟨⟨hb19.size, fun k o _ hk _ => (hb19.block k (lt_of_block hk)).trans hk⟩, KpW.below hb19 hB.size, ⟨⟨v, (hb19.block _ hv.lt).trans hv, ?_, trivial⟩, (hb19.block _ hF.lt).trans hF⟩, hB.trans (hb19.mono hB.size), Nat.le_trans hsz hb19.size⟩
                  rw [hch]
                  exact own_below hrow hb19
                | true =>
                  have hch : chosR ha ra hb rb (pre ++ [(x0, x1)]) = chosR ha ra hb rb pre ++ [⟨x0, x1, sc⟩] := by rw [chosR_snoc, HCH.out, hm]; simp
                  gi_wp2_with (first
                    | (refine ⟨trivial, ?_⟩; gi_at_call 22; refine (CallsIn.inRound _ (callsIn_wide.2 (may_calls sc _ _ _ _ _ _ _ _ n0 (n0 + 1) _ HS8.out.a HS8.out.b))).mono ?_; rintro e w9 ⟨rfl, hb9⟩; rw [hm]; have hv9 : Boxed w9 (w1.heap.size + 1) 50 v := (hb9.block _ hv8.lt).trans hv8; have hrow9 : w9.ownsRow w5.heap.size 57 3 v (chosR ha ra hb rb pre).length (Gr.cellsC (chosR ha ra hb rb pre)) := own_below hrow8 hb9; have hc9 := hv9.cell; have hs9 : w5.heap.size ≤ w9.heap.size := Nat.le_trans hsz (Nat.le_trans HB8.out.size hb9.size))
                    | (gi_at_builtin; refine wpListIn_append_own _ rfl _ _ 50 rfl w5.heap.size 57 i0 _ 3 24 Try.underlying50 hi0 hz0 hz1 hz2 rfl (by decide) _ _ _ rfl (hrow9.alloc _) ⟨w9.heap.size, 0, none⟩ 1 1 [.int .i64 x0, .int .i64 x1, .int .i64 sc] rfl rfl (Gr.cell_at3 _ _ _ _ _ _ rfl) (by simp [Value.oneCell']) hmy hmz (by simp; omega) ?_; intro v' w10 hown' hgrow _; obtain ⟨g', cap', rfl⟩ := ownsRow_succ hown'; obtain ⟨hv1, hv2, hr2, hk2, hb2⟩ := hv9.appended (by decide) (Go.Proofs.YtoefeboikkhdkaaW.PrintWords.own_weaken hrow9 (by omega)) (by omega) (Nat.le_succ _) (Go.Proofs.YtoefeboikkhdkaaW.PrintWords.own_weaken hown' (by omega)) hgrow; have hc1 := hv1.cell; have hf1 := hv1.frozen))
                  have hb19 : Below W.heap.size W w9 := HB8.out.trans (hb9.mono HB8.out.size)
                  have hF9 : Boxed w9 w1.heap.size 49 _ := (hb9.block _ hF8.lt).trans hF8
                  have hne : ∀ j, j < w5.heap.size → some j ≠ v.ownBlock := fun j hj e => by have := Go.Proofs.YtoefeboikkhdkaaW.PrintWords.own_base hrow9 j e.symm; omega
                  have hr3 := hown'.kept (grownBy_setCell' w10 (w1.heap.size + 1) (.slice (some ⟨g', 0, none⟩) ((chosR ha ra hb rb pre).length + 1) cap')) (.inr (hv1.not_row (by decide) hown').symm)
                  refine ⟨(⟨hb19.size, fun k o _ hk _ => (hb19.block k (lt_of_block hk)).trans hk⟩ : KeepsFrom w5.heap.size W w9).trans (hk2.from _), ⟨(hb19.mono hB.size).trans hb2, fun k cs ty fr hk hty hc0 => ?_⟩, ⟨⟨_, hv2, ?_, trivial⟩, ((hF9.alloc _).kept hgrow (hne _ (by omega))).other (by omega) _⟩, hB.trans ((hb19.mono hB.size).trans hb2), by have := hb2.size; have := hb19.size; omega⟩
                  · have hk9 := (hb19.block k (lt_of_block hc0)).trans hc0
                    rw [Below.heap_setCell _ _ _ _ (by show k ≠ w1.heap.size + 1; exact hk)]
                    refine ((hgrow.block k (by simp; have := lt_of_block hk9; omega) (fun e => ?_)).trans (Below.heap_alloc _ _ _ (lt_of_block hk9))).trans hk9
                    rcases hrow9.2 with ⟨rfl, _⟩ | ⟨g, cap, cur, rfl, _, hg, _⟩
                    · exact nomatch (show some k = none from e)
                    · obtain rfl : k = g := Option.some.inj (show some k = some g from e)
                      rw [hk9] at hg
                      cases hg
                      exact hty rfl
                  · rw [hch, Gr.cellsC_snoc, List.length_append]; exact hr3
            case done =>
              rintro D ys W hD rfl ⟨⟨⟨v, hv, hrow, _⟩, hF⟩, hB, hsz⟩ hK
              have hRv : Kd.R k57 57 W w5.heap.size (fun _ => True) v (chosR ha ra hb rb (leftR ps qs)) := ⟨fun _ _ => trivial, Gr.cellsC _, hrow, Gr.reps_cellsC _⟩
              obtain ⟨Av, cv, rfl⟩ := Kd.R_slice hRv
              have HRv := Aside0.mk hRv
              have hc := hv.cell
              have hCl := Aside0.mk (Kd.C_below (Kd.R_reads' HO1.out).2.2 hB)
              have hlc := (Kd.R_reads' HO1.out).2.1
              clear hRv hrow
              gi_wp2_with (first
                | (refine ⟨trivial, ?_⟩; gi_at_call 27; refine (callsIn_wide.2 (Gr.greedy_Pick.calls Av cv _ mm _ (Kd.R_reads' HRv.out).2.2 (Kd.R_reads' HRv.out).2.1 HMM.out)).mono ?_; rintro e w11 ⟨vm, rfl, hom, hb11⟩; obtain ⟨Am, cm, rfl⟩ := Kd.R_slice hom; have HOm := Aside0.mk hom; clear hom)
                | (refine ⟨trivial, ?_⟩; gi_at_call 26; refine (callsIn_wide.2 (together_calls Al cl l Am cm mm _ (Kd.C_below hCl.out hb11) hlc (Kd.R_reads' HOm.out).2.2 (Kd.R_reads' HOm.out).2.1 (by omega) HML.out (by rw [turnR_len, List.length_append]; have := HML.out; omega))).mono ?_; rintro e w12 ⟨vt, rfl, hot, hb12⟩))
              have hbW : Below W.heap.size W w12 := hb11.trans (hb12.mono hb11.size)
              have hK2 : w12.heap[D]? = some (.deferred (some [])) := (hbW.block D (lt_of_block hK)).trans hK
              have hlo := HS1.out.lo
              rw [HN0.out] at hlo
              have hs1 := hlo.size
              have hs2 := hB.size
              have hs3 := hb11.size
              have hall : Below w.heap.size w w12 := (hlo.trans (hB.mono hlo.size)).trans (hbW.mono (by omega))
              refine ⟨by simp, .inl ⟨_, _, rfl, run_takeDeferred hK2, ?_⟩⟩
              refine ⟨_, results_tmp2 rfl _ _ _, vt, rfl, ?_, ?_⟩
              · refine Kd.R_lower (base := w11.heap.size) ?_ (by omega)
                refine Kd.R_mono (Kd.R_step (Kd.R_bound hot) (fun k hk _ => ?_)) (fun _ _ => trivial)
                obtain ⟨_, _, _, q, _, cells, hcl⟩ := hk
                refine (grownBy_putObj' w12 D (.deferred none)).block k (lt_of_block hcl) (fun e => ?_)
                cases e
                rw [hK2] at hcl
                cases hcl
              · exact hall.trans (belowK_b (w := w) (Nat.le_refl _) w12 D _ _ (by omega) hK2 rfl rfl)
            case stop =>
              rintro D c pre W _ _ h _
              exact h.elim
          · exact nomatch hrr
        · exact nomatch hrr
theorem cols_Align.calls (A0_0 : Option Addr) (c0_0 : Nat) (l0_0 : List ByteArray) (A0_1 : Option Addr) (c0_1 : Nat) (l0_1 : List (List ByteArray)) (A1_0 : Option Addr) (c1_0 : Nat) (l1_0 : List ByteArray) (A1_1 : Option Addr) (c1_1 : Nat) (l1_1 : List (List ByteArray)) (a2 : Bool) (r1 : List PS) (r2 : Int) (w : World) (hr0_0 : Kd.C Kd.string w A0_0 l0_0.length l0_0) (hc0_0 : l0_0.length ≤ c0_0) (hr0_1 : Kd.C (Kd.slice 9 Kd.string) w A0_1 l0_1.length l0_1) (hc0_1 : l0_1.length ≤ c0_1) (hr1_0 : Kd.C Kd.string w A1_0 l1_0.length l1_0) (hc1_0 : l1_0.length ≤ c1_0) (hr1_1 : Kd.C (Kd.slice 9 Kd.string) w A1_1 l1_1.length l1_1) (hc1_1 : l1_1.length ≤ c1_1) (h : cols_Align.f l0_0 l0_1 l1_0 l1_1 a2 = some (r1, r2)) :
    Calls Try.prog 10 #[.agg #[.slice A0_0 l0_0.length c0_0, .slice A0_1 l0_1.length c0_1], .agg #[.slice A1_0 l1_0.length c1_0, .slice A1_1 l1_1.length c1_1], .bool a2] w fun e w' => ∃ v0_ : Value, e = .returned (.tuple #[v0_, .int .i64 r2]) ∧ Kd.R k37 37 w' w.heap.size (fun _ => True) v0_ r1 ∧ Below w.heap.size w w' := by
  by_cases hok : okT l0_0 l0_1 = true ∧ okT l1_0 l1_1 = true
  · exact align_calls A0_0 c0_0 l0_0 A0_1 c0_1 l0_1 A1_0 c1_0 l1_0 A1_1 c1_1 l1_1 a2 r1 r2 w hr0_0 hc0_0 hr0_1 hc0_1 hr1_0 hc1_0 hr1_1 hc1_1 hok.1 hok.2 h
  · unfold cols_Align.f at h
    rw [if_neg hok] at h
    exact nomatch h
end Go.Proofs.Ytoefeboikkhdkaa.X
end
section
namespace Go.Proofs.Ytoefeboikkhdkaa.X
open Go.RowKit Go.Proofs.YtoefeboikkhdkaaW.PrintWords Go.Proofs.YtoefeboikkhdkaaW.PrintLast Go.Proofs.YtoefeboikkhdkaaW.PrintMore
attribute [local go_sem] max2_int min2_int max_two min_two max_three min_three max_four min_four   -- for this text's walks alone
set_option linter.unusedVariables false
set_option linter.unusedSimpArgs false
attribute [local go_sem high] eqA37
def tartanref06_Same.l0 : Nat → List (S37) → List (S37) → Int → Option (Bool)
  | 0, _, _, _ => none
  | k + 1, x0, x1, x5 => if x5 < (x0.length : Int) then (if 0 ≤ x5 then (if x5 < (x1.length : Int) then (if (!(((rd_T37 x0 x5).f0) == ((rd_T37 x1 x5).f0)) || (!(((rd_T37 x0 x5).f1) == ((rd_T37 x1 x5).f1)))) = true then (some false) else (tartanref06_Same.l0 k x0 x1 (wrap64 (x5 + 1)))) else (none)) else (none)) else (some true)
def tartanref06_Same.f (k : Nat) (l0 : List (S37)) (l1 : List (S37)) : Option (Bool) := if (l0.length : Int) = (l1.length : Int) then (tartanref06_Same.l0 k l0 l1 0) else (some false)
theorem tartanref06_Same.mono_l : ∀ k, (∀ y0 y1 y2, LeO (tartanref06_Same.l0 k y0 y1 y2) (tartanref06_Same.l0 (k + 1) y0 y1 y2))
  | 0 => fun _ _ _ r h => by simp [tartanref06_Same.l0] at h
  | k + 1 => by
    have ih0 := tartanref06_Same.mono_l k
    · intro y0 y1 y2
      unfold tartanref06_Same.l0
      repeat' first
      | (with_reducible exact ih0 _ _ _)
      | (with_reducible exact LeO.refl _)
      | (with_reducible exact LeO.none _)
      | (with_reducible refine LeO.ite ?_ ?_)
      | (with_reducible refine LeO.bind ?_ (fun _ => ?_))
      | exact ih0 _ _ _
      | exact LeO.none _
      | refine LeO.ite ?_ ?_
      | refine LeO.bind ?_ (fun _ => ?_)
theorem tartanref06_Same.mono : ∀ a0 a1 k, LeO (tartanref06_Same.f k a0 a1) (tartanref06_Same.f (k + 1) a0 a1) := by
  intro a0 a1 k
  have ih0 := tartanref06_Same.mono_l k
  unfold tartanref06_Same.f
  repeat' first
      | (with_reducible exact ih0 _ _ _)
      | (with_reducible exact LeO.refl _)
      | (with_reducible exact LeO.none _)
      | (with_reducible refine LeO.ite ?_ ?_)
      | (with_reducible refine LeO.bind ?_ (fun _ => ?_))
      | exact ih0 _ _ _
      | exact LeO.none _
      | refine LeO.ite ?_ ?_
      | refine LeO.bind ?_ (fun _ => ?_)
set_option maxHeartbeats 8000000 in
set_option maxRecDepth 100000 in
theorem tartanref06_Same.calls (k : Nat) (A0 : Option Addr) (c0 : Nat) (l0 : List (S37)) (A1 : Option Addr) (c1 : Nat) (l1 : List (S37)) (r : Bool) (w : World) (hr0 : Kd.C k37 w A0 l0.length l0) (hc0 : l0.length ≤ c0) (hr1 : Kd.C k37 w A1 l1.length l1) (hc1 : l1.length ≤ c1) (h : tartanref06_Same.f k l0 l1 = some r) :
    Calls Try.prog 12 #[.slice A0 l0.length c0, .slice A1 l1.length c1] w fun e w' => e = .returned (.bool r) ∧ Drawn0 w w' := by
  have hu37 := Try.underlying37
  have HR0 := Aside0.mk hr0
  have HC0 := Aside0.mk hc0
  clear hr0 hc0
  have HR1 := Aside0.mk hr1
  have HC1 := Aside0.mk hc1
  clear hr1 hc1
  have H : (if (l0.length : Int) = (l1.length : Int) then (tartanref06_Same.l0 k l0 l1 0) else (some false)) = some r := h
  clear h
  by_cases c3 : (l0.length : Int) = (l1.length : Int)
  · rw [if_pos c3] at H
    have c3b0 : ((l0.length : Int) == (l1.length : Int)) = true := beq_iff_eq.mpr c3
    have c3b1 : ((l0.length : Int) != (l1.length : Int)) = false := bne_eq_false_iff_eq.mpr c3
    have c3b2 : (l0.length == l1.length) = true := by first | simpa using c3 | (simp at c3 ⊢; omega)
    clear c3
    have H' := Aside0.mk H
    clear H
    go_enter Try.func12, Try.ntmps12
    go_wp2
    repeat (go_quiet (fail); try go_wp2)
    go_loopg [5] k (fun kq v5 w' => ∃ (x5_1 : Int), v5 = .int .i64 x5_1 ∧ Aside0 (tartanref06_Same.l0 kq l0 l1 x5_1 = some r) ∧ Aside0 (kq ≤ k) ∧ Drawn0 w w')
    case atStart => exact ⟨(0), (by first | rfl | (simp; done) | (simp [*]; done)), H', ⟨Nat.le_refl _⟩, by repeat (first | exact Drawn0.refl _ | apply Drawn0.step)⟩
    case round =>
      clear H'
      try clear c1
      try clear p2
      try clear c3
      try clear c3b0
      try clear c3b1
      try clear c3b2
      obtain ⟨x5_1, rfl, HA, HK1, ⟨m1, rfl⟩⟩ := hrel
      cases gk with
      | zero => exact absurd HA.out (by simp [tartanref06_Same.l0])
      | succ k1 =>
        have H := HA.out
        clear HA
        simp only [tartanref06_Same.l0] at H
        by_cases c4 : x5_1 < (l0.length : Int)
        · rw [if_pos c4] at H
          have c4b0 : decide (x5_1 < (l0.length : Int)) = true := decide_eq_true c4
          clear c4
          by_cases c5 : 0 ≤ x5_1
          · rw [if_pos c5] at H
            have c5b0 : decide (0 ≤ x5_1) = true := decide_eq_true c5
            clear c5
            by_cases c6 : x5_1 < (l1.length : Int)
            · rw [if_pos c6] at H
              have c6b0 : decide (x5_1 < (l1.length : Int)) = true := decide_eq_true c6
              clear c6
              by_cases c7 : (!(((rd_T37 l0 x5_1).f0) == ((rd_T37 l1 x5_1).f0)) || (!(((rd_T37 l0 x5_1).f1) == ((rd_T37 l1 x5_1).f1)))) = true
              · rw [if_pos c7] at H
                have c7b0 : (!(((rd_T37 l0 x5_1).f0) == ((rd_T37 l1 x5_1).f0)) || (!(((rd_T37 l0 x5_1).f1) == ((rd_T37 l1 x5_1).f1)))) = true := c7
                clear c7
                obtain rfl := Option.some.inj H
                have p133 : 0 ≤ (x5_1 : Int) := of_decide_eq_true (by first | (with_reducible assumption) | assumption)
                have q133 : x5_1 < (l0.length : Int) := of_decide_eq_true (by first | (with_reducible assumption) | assumption)
                obtain ⟨ad133, e133, hx133_0, hx133_1⟩ := at_T37 HR0.out x5_1 p133 q133
                cases e133
                replace p133 := eq_true p133
                replace q133 := eq_true q133
                have p134 : 0 ≤ (x5_1 : Int) := of_decide_eq_true (by first | (with_reducible assumption) | assumption)
                have q134 : x5_1 < (l1.length : Int) := of_decide_eq_true (by first | (with_reducible assumption) | assumption)
                obtain ⟨ad134, e134, hx134_0, hx134_1⟩ := at_T37 HR1.out x5_1 p134 q134
                cases e134
                replace p134 := eq_true p134
                replace q134 := eq_true q134
                go_wp2
                repeat (go_quiet (fail); try go_wp2)
                go_ret
                exact ⟨by first | rfl | (simp; done) | (simp [*]; done), by repeat (first | exact Drawn0.refl _ | apply Drawn0.step)⟩
              · rw [if_neg c7] at H
                have c7b0 : (!(((rd_T37 l0 x5_1).f0) == ((rd_T37 l1 x5_1).f0)) || (!(((rd_T37 l0 x5_1).f1) == ((rd_T37 l1 x5_1).f1)))) = false := by simpa using c7
                clear c7
                have H' := Aside0.mk H
                clear H
                have p133 : 0 ≤ (x5_1 : Int) := of_decide_eq_true (by first | (with_reducible assumption) | assumption)
                have q133 : x5_1 < (l0.length : Int) := of_decide_eq_true (by first | (with_reducible assumption) | assumption)
                obtain ⟨ad133, e133, hx133_0, hx133_1⟩ := at_T37 HR0.out x5_1 p133 q133
                cases e133
                replace p133 := eq_true p133
                replace q133 := eq_true q133
                have p134 : 0 ≤ (x5_1 : Int) := of_decide_eq_true (by first | (with_reducible assumption) | assumption)
                have q134 : x5_1 < (l1.length : Int) := of_decide_eq_true (by first | (with_reducible assumption) | assumption)
                obtain ⟨ad134, e134, hx134_0, hx134_1⟩ := at_T37 HR1.out x5_1 p134 q134
                cases e134
                replace p134 := eq_true p134
                replace q134 := eq_true q134
                go_wp2
                repeat (go_quiet (fail); try go_wp2)
                go_roundg k1
                case measure => have := HK1.out; omega
                case rel => exact ⟨(wrap64 (x5_1 + 1)), (by first | rfl | (simp; done) | (simp [*]; done)), H', ⟨by have := HK1.out; omega⟩, by repeat (first | exact Drawn0.refl _ | apply Drawn0.step)⟩
            · rw [if_neg c6] at H
              exact absurd H (by simp)
          · rw [if_neg c5] at H
            exact absurd H (by simp)
        · rw [if_neg c4] at H
          have c4b0 : decide (x5_1 < (l0.length : Int)) = false := decide_eq_false c4
          clear c4
          obtain rfl := Option.some.inj H
          go_wp2
          repeat (go_quiet (fail); try go_wp2)
          go_ret
          exact ⟨by first | rfl | (simp; done) | (simp [*]; done), by repeat (first | exact Drawn0.refl _ | apply Drawn0.step)⟩
  · rw [if_neg c3] at H
    have c3b0 : ((l0.length : Int) == (l1.length : Int)) = false := beq_eq_false_iff_ne.mpr c3
    have c3b1 : ((l0.length : Int) != (l1.length : Int)) = true := bne_iff_ne.mpr c3
    have c3b2 : (l0.length == l1.length) = false := by first | simpa using c3 | (simp at c3 ⊢; omega)
    obtain rfl := Option.some.inj H
    go_enter Try.func12, Try.ntmps12
    go_wp2
    repeat (go_quiet (fail); try go_wp2)
    go_ret
    exact ⟨by first | rfl | (simp; done) | (simp [*]; done), by repeat (first | exact Drawn0.refl _ | apply Drawn0.step)⟩
def tartanlaw13_works.f (k : Nat)  : Option (Bool) := (some (([(⟨#[105, 100]⟩ : ByteArray), (⟨#[110, 97, 109, 101]⟩ : ByteArray)] : List ByteArray) : List ByteArray)).bind fun y135 => ((some (([(([(⟨#[49]⟩ : ByteArray), (⟨#[120]⟩ : ByteArray)] : List ByteArray)), (([(⟨#[50]⟩ : ByteArray), (⟨#[121]⟩ : ByteArray)] : List ByteArray))] : List (List ByteArray)) : List (List ByteArray))).bind fun y144 => ((some (([(⟨#[105, 100]⟩ : ByteArray), (⟨#[116, 105, 116, 108, 101]⟩ : ByteArray)] : List ByteArray) : List ByteArray)).bind fun y148 => ((some (([(([(⟨#[49]⟩ : ByteArray), (⟨#[120]⟩ : ByteArray)] : List ByteArray)), (([(⟨#[50]⟩ : ByteArray), (⟨#[121]⟩ : ByteArray)] : List ByteArray))] : List (List ByteArray)) : List (List ByteArray))).bind fun y157 => ((cols_Align.f y135 y144 y148 y157 true).bind fun bt161 => ((cols_Align.f y135 y144 y148 y157 false).bind fun bt165 => ((cols_Align.f y135 y144 ([] : List ByteArray) ([] : List (List ByteArray)) true).bind fun bt169 => ((tartanref06_Same.f k bt161.1 (([(⟨0, 0⟩ : S37), (⟨1, 1⟩ : S37)] : List (S37)))).bind fun t176 => (if t176 = true then (if bt161.2 = 0 then (if (bt165.1.length : Int) = 1 then (if bt165.2 = 0 then (if bt169.2 = 8 then ((cols_Named.f k y135 y144 y148 y157).bind fun t177 => (some ((t177.length : Int) == 1))) else (some false)) else (some false)) else (some false)) else (some false)) else (some false)))))))))
theorem tartanlaw13_works.mono : ∀ k, LeO (tartanlaw13_works.f k ) (tartanlaw13_works.f (k + 1) ) := by
  intro  k
  unfold tartanlaw13_works.f
  repeat' first
      | (with_reducible exact cols_Named.mono _ _ _ _ _)
      | (with_reducible exact tartanref06_Same.mono _ _ _)
      | (with_reducible exact LeO.refl _)
      | (with_reducible exact LeO.none _)
      | (with_reducible refine LeO.ite ?_ ?_)
      | (with_reducible refine LeO.bind ?_ (fun _ => ?_))
      | exact cols_Named.mono _ _ _ _ _
      | exact tartanref06_Same.mono _ _ _
      | exact LeO.none _
      | refine LeO.ite ?_ ?_
      | refine LeO.bind ?_ (fun _ => ?_)
set_option maxRecDepth 1000000 in
theorem tartanlaw13_works.true_ (k : Nat) (r : Bool) (h : tartanlaw13_works.f k = some r) : r = true := by
  have hm : ∀ n, tartanlaw13_works.f (k + n) = some r := by
    intro n
    induction n with
    | zero => exact h
    | succ n ih => exact tartanlaw13_works.mono (k + n) r ih
  have h1 := hm 60
  have h2 : ∀ k, tartanlaw13_works.f (k + 60) = some true := by intro k; kernel_rfl
  rw [h2] at h1
  exact (Option.some.inj h1).symm
set_option maxHeartbeats 8000000 in
set_option maxRecDepth 100000 in
theorem tartanlaw13_works.calls (k : Nat)  (r : Bool) (w : World) (h : tartanlaw13_works.f k  = some r) :
    Calls Try.prog 8 #[] w fun e w' => e = .returned (.bool r) ∧ Below w.heap.size w w' := by
  have hu25 := Try.underlying25
  have hu37 := Try.underlying37
  have HB := Aside0.mk (Below.refl w.heap.size w)
  have H : ((some (([(⟨#[105, 100]⟩ : ByteArray), (⟨#[110, 97, 109, 101]⟩ : ByteArray)] : List ByteArray) : List ByteArray)).bind fun y135 => ((some (([(([(⟨#[49]⟩ : ByteArray), (⟨#[120]⟩ : ByteArray)] : List ByteArray)), (([(⟨#[50]⟩ : ByteArray), (⟨#[121]⟩ : ByteArray)] : List ByteArray))] : List (List ByteArray)) : List (List ByteArray))).bind fun y144 => ((some (([(⟨#[105, 100]⟩ : ByteArray), (⟨#[116, 105, 116, 108, 101]⟩ : ByteArray)] : List ByteArray) : List ByteArray)).bind fun y148 => ((some (([(([(⟨#[49]⟩ : ByteArray), (⟨#[120]⟩ : ByteArray)] : List ByteArray)), (([(⟨#[50]⟩ : ByteArray), (⟨#[121]⟩ : ByteArray)] : List ByteArray))] : List (List ByteArray)) : List (List ByteArray))).bind fun y157 => ((cols_Align.f y135 y144 y148 y157 true).bind fun bt161 => ((cols_Align.f y135 y144 y148 y157 false).bind fun bt165 => ((cols_Align.f y135 y144 ([] : List ByteArray) ([] : List (List ByteArray)) true).bind fun bt169 => ((tartanref06_Same.f k bt161.1 (([(⟨0, 0⟩ : S37), (⟨1, 1⟩ : S37)] : List (S37)))).bind fun t176 => (if t176 = true then (if bt161.2 = 0 then (if (bt165.1.length : Int) = 1 then (if bt165.2 = 0 then (if bt169.2 = 8 then ((cols_Named.f k y135 y144 y148 y157).bind fun t177 => (some ((t177.length : Int) == 1))) else (some false)) else (some false)) else (some false)) else (some false)) else (some false)))))))))) = some r := h
  have hw_ := Aside0.mk (tartanlaw13_works.true_ k r h)
  clear h
  obtain ⟨y135, hy135⟩ : ∃ y_ : List ByteArray, y_ = (([(⟨#[105, 100]⟩ : ByteArray), (⟨#[110, 97, 109, 101]⟩ : ByteArray)] : List ByteArray)) := ⟨_, rfl⟩
  replace H : ((some (([(([(⟨#[49]⟩ : ByteArray), (⟨#[120]⟩ : ByteArray)] : List ByteArray)), (([(⟨#[50]⟩ : ByteArray), (⟨#[121]⟩ : ByteArray)] : List ByteArray))] : List (List ByteArray)) : List (List ByteArray))).bind fun y144 => ((some (([(⟨#[105, 100]⟩ : ByteArray), (⟨#[116, 105, 116, 108, 101]⟩ : ByteArray)] : List ByteArray) : List ByteArray)).bind fun y148 => ((some (([(([(⟨#[49]⟩ : ByteArray), (⟨#[120]⟩ : ByteArray)] : List ByteArray)), (([(⟨#[50]⟩ : ByteArray), (⟨#[121]⟩ : ByteArray)] : List ByteArray))] : List (List ByteArray)) : List (List ByteArray))).bind fun y157 => ((cols_Align.f y135 y144 y148 y157 true).bind fun bt161 => ((cols_Align.f y135 y144 y148 y157 false).bind fun bt165 => ((cols_Align.f y135 y144 ([] : List ByteArray) ([] : List (List ByteArray)) true).bind fun bt169 => ((tartanref06_Same.f k bt161.1 (([(⟨0, 0⟩ : S37), (⟨1, 1⟩ : S37)] : List (S37)))).bind fun t176 => (if t176 = true then (if bt161.2 = 0 then (if (bt165.1.length : Int) = 1 then (if bt165.2 = 0 then (if bt169.2 = 8 then ((cols_Named.f k y135 y144 y148 y157).bind fun t177 => (some ((t177.length : Int) == 1))) else (some false)) else (some false)) else (some false)) else (some false)) else (some false))))))))) = some r := by first | (rw [hy135]; with_reducible exact H) | (have H2_ := (Option.bind_some _ _).symm.trans H; rw [hy135]; with_reducible exact H2_) | (have H2_ := (Option.bind_some _ _).symm.trans H; with_reducible exact H2_) | with_reducible exact H | (rw [hy135]; exact H) | exact H
  have Ny135 := Aside0.mk hy135
  clear hy135
  obtain ⟨y138, hy138⟩ : ∃ y_ : List ByteArray, y_ = (([(⟨#[49]⟩ : ByteArray), (⟨#[120]⟩ : ByteArray)] : List ByteArray)) := ⟨_, rfl⟩
  replace H : ((some (([y138, (([(⟨#[50]⟩ : ByteArray), (⟨#[121]⟩ : ByteArray)] : List ByteArray))] : List (List ByteArray)) : List (List ByteArray))).bind fun y144 => ((some (([(⟨#[105, 100]⟩ : ByteArray), (⟨#[116, 105, 116, 108, 101]⟩ : ByteArray)] : List ByteArray) : List ByteArray)).bind fun y148 => ((some (([(([(⟨#[49]⟩ : ByteArray), (⟨#[120]⟩ : ByteArray)] : List ByteArray)), (([(⟨#[50]⟩ : ByteArray), (⟨#[121]⟩ : ByteArray)] : List ByteArray))] : List (List ByteArray)) : List (List ByteArray))).bind fun y157 => ((cols_Align.f y135 y144 y148 y157 true).bind fun bt161 => ((cols_Align.f y135 y144 y148 y157 false).bind fun bt165 => ((cols_Align.f y135 y144 ([] : List ByteArray) ([] : List (List ByteArray)) true).bind fun bt169 => ((tartanref06_Same.f k bt161.1 (([(⟨0, 0⟩ : S37), (⟨1, 1⟩ : S37)] : List (S37)))).bind fun t176 => (if t176 = true then (if bt161.2 = 0 then (if (bt165.1.length : Int) = 1 then (if bt165.2 = 0 then (if bt169.2 = 8 then ((cols_Named.f k y135 y144 y148 y157).bind fun t177 => (some ((t177.length : Int) == 1))) else (some false)) else (some false)) else (some false)) else (some false)) else (some false))))))))) = some r := by first | (rw [hy138]; with_reducible exact H) | (have H2_ := (Option.bind_some _ _).symm.trans H; rw [hy138]; with_reducible exact H2_) | (have H2_ := (Option.bind_some _ _).symm.trans H; with_reducible exact H2_) | with_reducible exact H | (rw [hy138]; exact H) | exact H
  have Ny138 := Aside0.mk hy138
  clear hy138
  obtain ⟨y141, hy141⟩ : ∃ y_ : List ByteArray, y_ = (([(⟨#[50]⟩ : ByteArray), (⟨#[121]⟩ : ByteArray)] : List ByteArray)) := ⟨_, rfl⟩
  replace H : ((some (([y138, y141] : List (List ByteArray)) : List (List ByteArray))).bind fun y144 => ((some (([(⟨#[105, 100]⟩ : ByteArray), (⟨#[116, 105, 116, 108, 101]⟩ : ByteArray)] : List ByteArray) : List ByteArray)).bind fun y148 => ((some (([(([(⟨#[49]⟩ : ByteArray), (⟨#[120]⟩ : ByteArray)] : List ByteArray)), (([(⟨#[50]⟩ : ByteArray), (⟨#[121]⟩ : ByteArray)] : List ByteArray))] : List (List ByteArray)) : List (List ByteArray))).bind fun y157 => ((cols_Align.f y135 y144 y148 y157 true).bind fun bt161 => ((cols_Align.f y135 y144 y148 y157 false).bind fun bt165 => ((cols_Align.f y135 y144 ([] : List ByteArray) ([] : List (List ByteArray)) true).bind fun bt169 => ((tartanref06_Same.f k bt161.1 (([(⟨0, 0⟩ : S37), (⟨1, 1⟩ : S37)] : List (S37)))).bind fun t176 => (if t176 = true then (if bt161.2 = 0 then (if (bt165.1.length : Int) = 1 then (if bt165.2 = 0 then (if bt169.2 = 8 then ((cols_Named.f k y135 y144 y148 y157).bind fun t177 => (some ((t177.length : Int) == 1))) else (some false)) else (some false)) else (some false)) else (some false)) else (some false))))))))) = some r := by first | (rw [hy141]; with_reducible exact H) | (have H2_ := (Option.bind_some _ _).symm.trans H; rw [hy141]; with_reducible exact H2_) | (have H2_ := (Option.bind_some _ _).symm.trans H; with_reducible exact H2_) | with_reducible exact H | (rw [hy141]; exact H) | exact H
  have Ny141 := Aside0.mk hy141
  clear hy141
  obtain ⟨y144, hy144⟩ : ∃ y_ : List (List ByteArray), y_ = (([y138, y141] : List (List ByteArray))) := ⟨_, rfl⟩
  replace H : ((some (([(⟨#[105, 100]⟩ : ByteArray), (⟨#[116, 105, 116, 108, 101]⟩ : ByteArray)] : List ByteArray) : List ByteArray)).bind fun y148 => ((some (([(([(⟨#[49]⟩ : ByteArray), (⟨#[120]⟩ : ByteArray)] : List ByteArray)), (([(⟨#[50]⟩ : ByteArray), (⟨#[121]⟩ : ByteArray)] : List ByteArray))] : List (List ByteArray)) : List (List ByteArray))).bind fun y157 => ((cols_Align.f y135 y144 y148 y157 true).bind fun bt161 => ((cols_Align.f y135 y144 y148 y157 false).bind fun bt165 => ((cols_Align.f y135 y144 ([] : List ByteArray) ([] : List (List ByteArray)) true).bind fun bt169 => ((tartanref06_Same.f k bt161.1 (([(⟨0, 0⟩ : S37), (⟨1, 1⟩ : S37)] : List (S37)))).bind fun t176 => (if t176 = true then (if bt161.2 = 0 then (if (bt165.1.length : Int) = 1 then (if bt165.2 = 0 then (if bt169.2 = 8 then ((cols_Named.f k y135 y144 y148 y157).bind fun t177 => (some ((t177.length : Int) == 1))) else (some false)) else (some false)) else (some false)) else (some false)) else (some false)))))))) = some r := by first | (rw [hy144]; with_reducible exact H) | (have H2_ := (Option.bind_some _ _).symm.trans H; rw [hy144]; with_reducible exact H2_) | (have H2_ := (Option.bind_some _ _).symm.trans H; with_reducible exact H2_) | with_reducible exact H | (rw [hy144]; exact H) | exact H
  have Ny144 := Aside0.mk hy144
  clear hy144
  obtain ⟨y148, hy148⟩ : ∃ y_ : List ByteArray, y_ = (([(⟨#[105, 100]⟩ : ByteArray), (⟨#[116, 105, 116, 108, 101]⟩ : ByteArray)] : List ByteArray)) := ⟨_, rfl⟩
  replace H : ((some (([(([(⟨#[49]⟩ : ByteArray), (⟨#[120]⟩ : ByteArray)] : List ByteArray)), (([(⟨#[50]⟩ : ByteArray), (⟨#[121]⟩ : ByteArray)] : List ByteArray))] : List (List ByteArray)) : List (List ByteArray))).bind fun y157 => ((cols_Align.f y135 y144 y148 y157 true).bind fun bt161 => ((cols_Align.f y135 y144 y148 y157 false).bind fun bt165 => ((cols_Align.f y135 y144 ([] : List ByteArray) ([] : List (List ByteArray)) true).bind fun bt169 => ((tartanref06_Same.f k bt161.1 (([(⟨0, 0⟩ : S37), (⟨1, 1⟩ : S37)] : List (S37)))).bind fun t176 => (if t176 = true then (if bt161.2 = 0 then (if (bt165.1.length : Int) = 1 then (if bt165.2 = 0 then (if bt169.2 = 8 then ((cols_Named.f k y135 y144 y148 y157).bind fun t177 => (some ((t177.length : Int) == 1))) else (some false)) else (some false)) else (some false)) else (some false)) else (some false))))))) = some r := by first | (rw [hy148]; with_reducible exact H) | (have H2_ := (Option.bind_some _ _).symm.trans H; rw [hy148]; with_reducible exact H2_) | (have H2_ := (Option.bind_some _ _).symm.trans H; with_reducible exact H2_) | with_reducible exact H | (rw [hy148]; exact H) | exact H
  have Ny148 := Aside0.mk hy148
  clear hy148
  obtain ⟨y151, hy151⟩ : ∃ y_ : List ByteArray, y_ = (([(⟨#[49]⟩ : ByteArray), (⟨#[120]⟩ : ByteArray)] : List ByteArray)) := ⟨_, rfl⟩
  replace H : ((some (([y151, (([(⟨#[50]⟩ : ByteArray), (⟨#[121]⟩ : ByteArray)] : List ByteArray))] : List (List ByteArray)) : List (List ByteArray))).bind fun y157 => ((cols_Align.f y135 y144 y148 y157 true).bind fun bt161 => ((cols_Align.f y135 y144 y148 y157 false).bind fun bt165 => ((cols_Align.f y135 y144 ([] : List ByteArray) ([] : List (List ByteArray)) true).bind fun bt169 => ((tartanref06_Same.f k bt161.1 (([(⟨0, 0⟩ : S37), (⟨1, 1⟩ : S37)] : List (S37)))).bind fun t176 => (if t176 = true then (if bt161.2 = 0 then (if (bt165.1.length : Int) = 1 then (if bt165.2 = 0 then (if bt169.2 = 8 then ((cols_Named.f k y135 y144 y148 y157).bind fun t177 => (some ((t177.length : Int) == 1))) else (some false)) else (some false)) else (some false)) else (some false)) else (some false))))))) = some r := by first | (rw [hy151]; with_reducible exact H) | (have H2_ := (Option.bind_some _ _).symm.trans H; rw [hy151]; with_reducible exact H2_) | (have H2_ := (Option.bind_some _ _).symm.trans H; with_reducible exact H2_) | with_reducible exact H | (rw [hy151]; exact H) | exact H
  have Ny151 := Aside0.mk hy151
  clear hy151
  obtain ⟨y154, hy154⟩ : ∃ y_ : List ByteArray, y_ = (([(⟨#[50]⟩ : ByteArray), (⟨#[121]⟩ : ByteArray)] : List ByteArray)) := ⟨_, rfl⟩
  replace H : ((some (([y151, y154] : List (List ByteArray)) : List (List ByteArray))).bind fun y157 => ((cols_Align.f y135 y144 y148 y157 true).bind fun bt161 => ((cols_Align.f y135 y144 y148 y157 false).bind fun bt165 => ((cols_Align.f y135 y144 ([] : List ByteArray) ([] : List (List ByteArray)) true).bind fun bt169 => ((tartanref06_Same.f k bt161.1 (([(⟨0, 0⟩ : S37), (⟨1, 1⟩ : S37)] : List (S37)))).bind fun t176 => (if t176 = true then (if bt161.2 = 0 then (if (bt165.1.length : Int) = 1 then (if bt165.2 = 0 then (if bt169.2 = 8 then ((cols_Named.f k y135 y144 y148 y157).bind fun t177 => (some ((t177.length : Int) == 1))) else (some false)) else (some false)) else (some false)) else (some false)) else (some false))))))) = some r := by first | (rw [hy154]; with_reducible exact H) | (have H2_ := (Option.bind_some _ _).symm.trans H; rw [hy154]; with_reducible exact H2_) | (have H2_ := (Option.bind_some _ _).symm.trans H; with_reducible exact H2_) | with_reducible exact H | (rw [hy154]; exact H) | exact H
  have Ny154 := Aside0.mk hy154
  clear hy154
  obtain ⟨y157, hy157⟩ : ∃ y_ : List (List ByteArray), y_ = (([y151, y154] : List (List ByteArray))) := ⟨_, rfl⟩
  replace H : ((cols_Align.f y135 y144 y148 y157 true).bind fun bt161 => ((cols_Align.f y135 y144 y148 y157 false).bind fun bt165 => ((cols_Align.f y135 y144 ([] : List ByteArray) ([] : List (List ByteArray)) true).bind fun bt169 => ((tartanref06_Same.f k bt161.1 (([(⟨0, 0⟩ : S37), (⟨1, 1⟩ : S37)] : List (S37)))).bind fun t176 => (if t176 = true then (if bt161.2 = 0 then (if (bt165.1.length : Int) = 1 then (if bt165.2 = 0 then (if bt169.2 = 8 then ((cols_Named.f k y135 y144 y148 y157).bind fun t177 => (some ((t177.length : Int) == 1))) else (some false)) else (some false)) else (some false)) else (some false)) else (some false)))))) = some r := by first | (rw [hy157]; with_reducible exact H) | (have H2_ := (Option.bind_some _ _).symm.trans H; rw [hy157]; with_reducible exact H2_) | (have H2_ := (Option.bind_some _ _).symm.trans H; with_reducible exact H2_) | with_reducible exact H | (rw [hy157]; exact H) | exact H
  have Ny157 := Aside0.mk hy157
  clear hy157
  replace H := Option.bind_eq_some_iff.mp H
  obtain ⟨⟨t161, t164⟩, A10, H⟩ := H
  replace H : ((cols_Align.f y135 y144 y148 y157 false).bind fun bt165 => ((cols_Align.f y135 y144 ([] : List ByteArray) ([] : List (List ByteArray)) true).bind fun bt169 => ((tartanref06_Same.f k t161 (([(⟨0, 0⟩ : S37), (⟨1, 1⟩ : S37)] : List (S37)))).bind fun t176 => (if t176 = true then (if t164 = 0 then (if (bt165.1.length : Int) = 1 then (if bt165.2 = 0 then (if bt169.2 = 8 then ((cols_Named.f k y135 y144 y148 y157).bind fun t177 => (some ((t177.length : Int) == 1))) else (some false)) else (some false)) else (some false)) else (some false)) else (some false))))) = some r := H
  have A1 := Aside0.mk A10
  clear A10
  replace H := Option.bind_eq_some_iff.mp H
  obtain ⟨⟨t165, t168⟩, A20, H⟩ := H
  replace H : ((cols_Align.f y135 y144 ([] : List ByteArray) ([] : List (List ByteArray)) true).bind fun bt169 => ((tartanref06_Same.f k t161 (([(⟨0, 0⟩ : S37), (⟨1, 1⟩ : S37)] : List (S37)))).bind fun t176 => (if t176 = true then (if t164 = 0 then (if (t165.length : Int) = 1 then (if t168 = 0 then (if bt169.2 = 8 then ((cols_Named.f k y135 y144 y148 y157).bind fun t177 => (some ((t177.length : Int) == 1))) else (some false)) else (some false)) else (some false)) else (some false)) else (some false)))) = some r := H
  have A2 := Aside0.mk A20
  clear A20
  replace H := Option.bind_eq_some_iff.mp H
  obtain ⟨⟨t169, t172⟩, A30, H⟩ := H
  replace H : ((tartanref06_Same.f k t161 (([(⟨0, 0⟩ : S37), (⟨1, 1⟩ : S37)] : List (S37)))).bind fun t176 => (if t176 = true then (if t164 = 0 then (if (t165.length : Int) = 1 then (if t168 = 0 then (if t172 = 8 then ((cols_Named.f k y135 y144 y148 y157).bind fun t177 => (some ((t177.length : Int) == 1))) else (some false)) else (some false)) else (some false)) else (some false)) else (some false))) = some r := H
  have A3 := Aside0.mk A30
  clear A30
  obtain ⟨y173, hy173⟩ : ∃ y_ : List (S37), y_ = (([(⟨0, 0⟩ : S37), (⟨1, 1⟩ : S37)] : List (S37))) := ⟨_, rfl⟩
  replace H : ((tartanref06_Same.f k t161 y173).bind fun t176 => (if t176 = true then (if t164 = 0 then (if (t165.length : Int) = 1 then (if t168 = 0 then (if t172 = 8 then ((cols_Named.f k y135 y144 y148 y157).bind fun t177 => (some ((t177.length : Int) == 1))) else (some false)) else (some false)) else (some false)) else (some false)) else (some false))) = some r := by first | (rw [hy173]; with_reducible exact H) | (have H2_ := (Option.bind_some _ _).symm.trans H; rw [hy173]; with_reducible exact H2_) | (have H2_ := (Option.bind_some _ _).symm.trans H; with_reducible exact H2_) | with_reducible exact H | (rw [hy173]; exact H) | exact H
  have Ny173 := Aside0.mk hy173
  clear hy173
  replace H := Option.bind_eq_some_iff.mp H
  obtain ⟨t176, A40, H⟩ := H
  replace H : (if t176 = true then (if t164 = 0 then (if (t165.length : Int) = 1 then (if t168 = 0 then (if t172 = 8 then ((cols_Named.f k y135 y144 y148 y157).bind fun t177 => (some ((t177.length : Int) == 1))) else (some false)) else (some false)) else (some false)) else (some false)) else (some false)) = some r := H
  have A4 := Aside0.mk A40
  clear A40
  by_cases c5 : t176 = true
  · subst c5
    have H1 : (if t164 = 0 then (if (t165.length : Int) = 1 then (if t168 = 0 then (if t172 = 8 then ((cols_Named.f k y135 y144 y148 y157).bind fun t177 => (some ((t177.length : Int) == 1))) else (some false)) else (some false)) else (some false)) else (some false)) = some r := by first | (rw [if_pos rfl] at H; exact H) | (rw [if_pos trivial] at H; exact H) | simpa using H
    clear H
    have H := H1
    clear H1
    by_cases c6 : t164 = 0
    · rw [if_pos c6] at H
      have c6b0 : (t164 == 0) = true := beq_iff_eq.mpr c6
      have c6b1 : (t164 != 0) = false := bne_eq_false_iff_eq.mpr c6
      clear c6
      by_cases c7 : (t165.length : Int) = 1
      · rw [if_pos c7] at H
        have c7b0 : ((t165.length : Int) == 1) = true := beq_iff_eq.mpr c7
        have c7b1 : ((t165.length : Int) != 1) = false := bne_eq_false_iff_eq.mpr c7
        clear c7
        by_cases c8 : t168 = 0
        · rw [if_pos c8] at H
          have c8b0 : (t168 == 0) = true := beq_iff_eq.mpr c8
          have c8b1 : (t168 != 0) = false := bne_eq_false_iff_eq.mpr c8
          clear c8
          by_cases c9 : t172 = 8
          · rw [if_pos c9] at H
            have c9b0 : (t172 == 8) = true := beq_iff_eq.mpr c9
            have c9b1 : (t172 != 8) = false := bne_eq_false_iff_eq.mpr c9
            clear c9
            replace H := Option.bind_eq_some_iff.mp H
            obtain ⟨t177, A100, H⟩ := H
            replace H : (some ((t177.length : Int) == 1)) = some r := H
            have A10 := Aside0.mk A100
            clear A100
            obtain rfl := Option.some.inj H
            go_enter Try.func8, Try.ntmps8
            go_wp2_with (first | ((with_reducible refine gate_dst (N := 10) rfl ?_); (try (refine gate_guard (by rfl) ?_; dsimp only)); refine Kd.R_lit Kd.string _ 9 ?hg (N := 10) ?hd (xs := ([(⟨#[105, 100]⟩ : ByteArray), (⟨#[110, 97, 109, 101]⟩ : ByteArray)] : List ByteArray)) (inner := [.string (⟨#[105, 100]⟩ : ByteArray), .string (⟨#[110, 97, 109, 101]⟩ : ByteArray)]) (ok := fun _ => True) (okp := fun _ => True) ?hr ?hp (fun _ hk => hk) trivial (Below.refl _ _) (Nat.le_refl _) (by simp) ?_; (case hd => rfl); (case hg => rfl); (case hr => first | (go_simp; done) | (go_simp; rfl)); (case hp => exact (Reps.one (show Kd.M Kd.string _ _ _ (⟨#[105, 100]⟩ : ByteArray) [.string (⟨#[105, 100]⟩ : ByteArray)] from rfl) (Reps.one (show Kd.M Kd.string _ _ _ (⟨#[110, 97, 109, 101]⟩ : ByteArray) [.string (⟨#[110, 97, 109, 101]⟩ : ByteArray)] from rfl) (Reps.none _ _)))); intro v136 w11 ho12 hb hg_ hnew_; clear hg_ hnew_; (first | rw [← Ny135.out] at ho12 | (simp only [Int.reduceToNat] at ho12; rw [← Ny135.out] at ho12)); have n0_ := Aside0.mk (Kd.R_lower ho12 (below_size (by repeat (first | (with_reducible first | exact HB.out | apply below_alloc | apply pw_below_drewN | apply below_drew1) | exact HB.out)))); have n1_ := Aside0.mk (below_step (by repeat (first | (with_reducible first | exact HB.out | apply below_alloc | apply pw_below_drewN | apply below_drew1) | exact HB.out)) hb); clear HB; have HO137 := n0_; have HB := n1_; clear n0_ n1_; clear hb ho12) | ((with_reducible refine gate_dst (N := 11) rfl ?_); (try (refine gate_guard (by rfl) ?_; dsimp only)); refine Kd.R_lit Kd.string _ 9 ?hg (N := 11) ?hd (xs := ([(⟨#[49]⟩ : ByteArray), (⟨#[120]⟩ : ByteArray)] : List ByteArray)) (inner := [.string (⟨#[49]⟩ : ByteArray), .string (⟨#[120]⟩ : ByteArray)]) (ok := fun _ => True) (okp := fun _ => True) ?hr ?hp (fun _ hk => hk) trivial (Below.refl _ _) (Nat.le_refl _) (by simp) ?_; (case hd => rfl); (case hg => rfl); (case hr => first | (go_simp; done) | (go_simp; rfl)); (case hp => exact (Reps.one (show Kd.M Kd.string _ _ _ (⟨#[49]⟩ : ByteArray) [.string (⟨#[49]⟩ : ByteArray)] from rfl) (Reps.one (show Kd.M Kd.string _ _ _ (⟨#[120]⟩ : ByteArray) [.string (⟨#[120]⟩ : ByteArray)] from rfl) (Reps.none _ _)))); intro v139 w13 ho14 hb hg_ hnew_; clear hg_ hnew_; (first | rw [← Ny138.out] at ho14 | (simp only [Int.reduceToNat] at ho14; rw [← Ny138.out] at ho14)); have n0_ := Aside0.mk (Kd.R_elder' (by (with_reducible repeat (first | apply Kd.R_alloc | apply Kd.R_drewN | apply Kd.R_drew)); exact HO137.out) (Kd.R_base ho14) hb); have n1_ := Aside0.mk (Kd.R_lower (Kd.R_new' ho14 (Kd.R_lt (by (with_reducible repeat (first | apply Kd.R_alloc | apply Kd.R_drewN | apply Kd.R_drew)); exact HO137.out))) (below_size (by repeat (first | (with_reducible first | exact HB.out | apply below_alloc | apply pw_below_drewN | apply below_drew1) | exact HB.out)))); have n2_ := Aside0.mk (below_step (by repeat (first | (with_reducible first | exact HB.out | apply below_alloc | apply pw_below_drewN | apply below_drew1) | exact HB.out)) hb); clear HO137; clear HB; have HO137 := n0_; have HO140 := n1_; have HB := n2_; clear n0_ n1_ n2_; clear hb ho14) | ((with_reducible refine gate_dst (N := 12) rfl ?_); (try (refine gate_guard (by rfl) ?_; dsimp only)); refine Kd.R_lit Kd.string _ 9 ?hg (N := 12) ?hd (xs := ([(⟨#[50]⟩ : ByteArray), (⟨#[121]⟩ : ByteArray)] : List ByteArray)) (inner := [.string (⟨#[50]⟩ : ByteArray), .string (⟨#[121]⟩ : ByteArray)]) (ok := fun _ => True) (okp := fun _ => True) ?hr ?hp (fun _ hk => hk) trivial (Below.refl _ _) (Nat.le_refl _) (by simp) ?_; (case hd => rfl); (case hg => rfl); (case hr => first | (go_simp; done) | (go_simp; rfl)); (case hp => exact (Reps.one (show Kd.M Kd.string _ _ _ (⟨#[50]⟩ : ByteArray) [.string (⟨#[50]⟩ : ByteArray)] from rfl) (Reps.one (show Kd.M Kd.string _ _ _ (⟨#[121]⟩ : ByteArray) [.string (⟨#[121]⟩ : ByteArray)] from rfl) (Reps.none _ _)))); intro v142 w15 ho16 hb hg_ hnew_; clear hg_ hnew_; (first | rw [← Ny141.out] at ho16 | (simp only [Int.reduceToNat] at ho16; rw [← Ny141.out] at ho16)); have n0_ := Aside0.mk (Kd.R_elder' (by (with_reducible repeat (first | apply Kd.R_alloc | apply Kd.R_drewN | apply Kd.R_drew)); exact HO137.out) (Kd.R_base ho16) hb); have n1_ := Aside0.mk (Kd.R_elder' (by (with_reducible repeat (first | apply Kd.R_alloc | apply Kd.R_drewN | apply Kd.R_drew)); exact HO140.out) (Kd.R_base ho16) hb); have n2_ := Aside0.mk (Kd.R_lower (Kd.R_new' (Kd.R_new' ho16 (Kd.R_lt (by (with_reducible repeat (first | apply Kd.R_alloc | apply Kd.R_drewN | apply Kd.R_drew)); exact HO137.out))) (Kd.R_lt (by (with_reducible repeat (first | apply Kd.R_alloc | apply Kd.R_drewN | apply Kd.R_drew)); exact HO140.out))) (below_size (by repeat (first | (with_reducible first | exact HB.out | apply below_alloc | apply pw_below_drewN | apply below_drew1) | exact HB.out)))); have n3_ := Aside0.mk (below_step (by repeat (first | (with_reducible first | exact HB.out | apply below_alloc | apply pw_below_drewN | apply below_drew1) | exact HB.out)) hb); clear HO137; clear HO140; clear HB; have HO137 := n0_; have HO140 := n1_; have HO143 := n2_; have HB := n3_; clear n0_ n1_ n2_ n3_; clear hb ho16; obtain ⟨Ao17, co17, eo17⟩ := Kd.R_slice HO140.out; subst eo17; obtain ⟨Ao18, co18, eo18⟩ := Kd.R_slice HO143.out; subst eo18) | ((with_reducible refine gate_dst (N := 13) rfl ?_); (try (refine gate_guard (by rfl) ?_; dsimp only)); refine Kd.N_lit (Kd.slice 9 Kd.string) _ 22 ?hg (N' := 13) ?hd (xs := ([y138, y141] : List (List ByteArray))) (inner := [.slice Ao17 y138.length co17, .slice Ao18 y141.length co18]) (ok := (fun k_ => some k_ ≠ (v136 : Value).ownBlock)) (okp := (fun k_ => some k_ ≠ (v136 : Value).ownBlock)) ?hr ?hp (fun _ hk => hk) ((show ∀ k_, w15.heap.size ≤ k_ → (fun k_ => some k_ ≠ (v136 : Value).ownBlock) k_ from fun k_ hk => Kd.fresh' (Kd.R_lt (by (with_reducible repeat (first | apply Kd.R_alloc | apply Kd.R_drewN | apply Kd.R_drew)); exact HO137.out)) k_ hk) _ (Nat.le_refl _)) (Below.refl _ _) (Nat.le_refl _) (by simp) ?_; (case hd => rfl); (case hg => rfl); (case hr => first | (go_simp; done) | (go_simp; rfl)); (case hp => exact (Reps.one (show Kd.FK (Kd.slice 9 Kd.string) _ _ y138 [.slice Ao17 y138.length co17] from (Kd.FK_slice_mk (Kd.R_reads' (Kd.R_mono (ok' := (fun k_ => some k_ ≠ (v136 : Value).ownBlock)) (HO140.out) (fun k_ hk => hk.1.2))).2.1 (Kd.R_F (Kd.R_mono (ok' := (fun k_ => some k_ ≠ (v136 : Value).ownBlock)) (HO140.out) (fun k_ hk => hk.1.2))))) (Reps.one (show Kd.FK (Kd.slice 9 Kd.string) _ _ y141 [.slice Ao18 y141.length co18] from (Kd.FK_slice_mk (Kd.R_reads' (Kd.R_mono (ok' := (fun k_ => some k_ ≠ (v136 : Value).ownBlock)) (HO143.out) (fun k_ hk => hk.1.2))).2.1 (Kd.R_F (Kd.R_mono (ok' := (fun k_ => some k_ ≠ (v136 : Value).ownBlock)) (HO143.out) (fun k_ hk => hk.1.2))))) (Reps.none _ _)))); intro v145 w19 ho20 hb hg_ hnew_; clear hg_ hnew_; (first | rw [← Ny144.out] at ho20 | (simp only [Int.reduceToNat] at ho20; rw [← Ny144.out] at ho20)); have n0_ := Aside0.mk (Kd.R_below (by (with_reducible repeat (first | apply Kd.R_alloc | apply Kd.R_drewN | apply Kd.R_drew)); exact HO137.out) hb); have n1_ := Aside0.mk (Kd.N_lower ho20 (below_size (by repeat (first | (with_reducible first | exact HB.out | apply below_alloc | apply pw_below_drewN | apply below_drew1) | exact HB.out)))); have n2_ := Aside0.mk (below_step (by repeat (first | (with_reducible first | exact HB.out | apply below_alloc | apply pw_below_drewN | apply below_drew1) | exact HB.out)) hb); clear HO137; clear HB; clear HO140; clear HO143; have HO137 := n0_; have HO146 := n1_; have HB := n2_; clear n0_ n1_ n2_; clear hb ho20; obtain ⟨Ao21, co21, eo21⟩ := Kd.N_slice HO146.out; subst eo21; obtain ⟨Ao22, co22, eo22⟩ := Kd.R_slice HO137.out; subst eo22) | ((with_reducible refine gate_dst (N := 1) rfl ?_); (try (refine gate_guard (by rfl) ?_; dsimp only)); refine box_event ?hg (N := 1) ?hd (cs := #[.slice none 0 0, .slice none 0 0]) (t := 25) ?hr ?_; (case hd => rfl); (case hg => rfl); (case hr => first | (go_simp; done) | (go_simp; rfl)); intro gb147 hg w23 hbox hb; have n0_ := Aside0.mk (Kd.R_below (by (with_reducible repeat (first | apply Kd.R_alloc | apply Kd.R_drewN | apply Kd.R_drew)); exact HO137.out) hb); have n1_ := Aside0.mk (Kd.N_below (Kd.N_elderB (by (with_reducible repeat (first | apply Kd.N_alloc | apply Kd.N_drewN | apply Kd.N_drew)); exact HO146.out) gb147 (Nat.le_of_eq hg.symm)) hb); have n2_ := Aside0.mk (below_step (by repeat (first | (with_reducible first | exact HB.out | apply below_alloc | apply pw_below_drewN | apply below_drew1) | exact HB.out)) hb); have n3_ := Aside0.mk (hbox); have n4_ := Aside0.mk ((by rw [hg]; exact (below_size (by repeat (first | (with_reducible first | exact HB.out | apply below_alloc | apply pw_below_drewN | apply below_drew1) | exact HB.out))) : w.heap.size ≤ gb147)); have n5_ := Aside0.mk ((by rw [hg]; exact (below_size (by repeat (first | (with_reducible first | exact HB.out | apply below_alloc | apply pw_below_drewN | apply below_drew1) | exact HB.out))) : w.heap.size ≤ gb147)); clear HO137; clear HO146; clear HB; have HO137 := n0_; have HO146 := n1_; have HB := n2_; have BK147 := n3_; have GW147 := n4_; have GE147 := n5_; clear n0_ n1_ n2_ n3_ n4_ n5_; clear hb hbox hg; have hcz24_0 : w23.cell? ⟨gb147, 0, none⟩ = some (.slice none 0 0) := (blk_cell BK147.out 0).trans rfl; have hcz24_1 : w23.cell? ⟨gb147, 1, none⟩ = some (.slice none 0 0) := (blk_cell BK147.out 1).trans rfl; have hfz24_0 := blk_frozen BK147.out 0; have hfz24_1 := blk_frozen BK147.out 1) | ((with_reducible refine gate_dst (N := 15) rfl ?_); (try (refine gate_guard (by rfl) ?_; dsimp only)); refine Kd.R_lit Kd.string _ 9 ?hg (N := 15) ?hd (xs := ([(⟨#[105, 100]⟩ : ByteArray), (⟨#[116, 105, 116, 108, 101]⟩ : ByteArray)] : List ByteArray)) (inner := [.string (⟨#[105, 100]⟩ : ByteArray), .string (⟨#[116, 105, 116, 108, 101]⟩ : ByteArray)]) (ok := fun _ => True) (okp := fun _ => True) ?hr ?hp (fun _ hk => hk) trivial (Below.refl _ _) (Nat.le_refl _) (by simp) ?_; (case hd => rfl); (case hg => rfl); (case hr => first | (go_simp; done) | (go_simp; rfl)); (case hp => exact (Reps.one (show Kd.M Kd.string _ _ _ (⟨#[105, 100]⟩ : ByteArray) [.string (⟨#[105, 100]⟩ : ByteArray)] from rfl) (Reps.one (show Kd.M Kd.string _ _ _ (⟨#[116, 105, 116, 108, 101]⟩ : ByteArray) [.string (⟨#[116, 105, 116, 108, 101]⟩ : ByteArray)] from rfl) (Reps.none _ _)))); intro v149 w25 ho26 hb hg_ hnew_; clear hg_ hnew_; (first | rw [← Ny148.out] at ho26 | (simp only [Int.reduceToNat] at ho26; rw [← Ny148.out] at ho26)); have n0_ := Aside0.mk (Kd.R_elder' (by (with_reducible repeat (first | apply Kd.R_alloc | apply Kd.R_drewN | apply Kd.R_drew)); exact (Kd.R_mono (Kd.R_far (p := ⟨gb147, 1, none⟩) (Kd.R_far (p := ⟨gb147, 0, none⟩) (Kd.R_types HO137.out BK147.out (by decide)) (fun _ hk => hk.2) (.slice Ao22 y135.length co22)) (fun _ hk => hk.2) (.slice Ao21 y144.length co21)) (fun _ h_ => h_.1))) (Kd.R_base ho26) hb); have n1_ := Aside0.mk (Kd.N_elder' (by (with_reducible repeat (first | apply Kd.N_alloc | apply Kd.N_drewN | apply Kd.N_drew)); exact (Kd.N_mono (Kd.N_far (p := ⟨gb147, 1, none⟩) (Kd.N_far (p := ⟨gb147, 0, none⟩) (Kd.N_mono HO146.out (fun k_ hk => (⟨hk, hk.2⟩ : _ ∧ k_ ≠ gb147))) (fun _ hk => hk.2) (.slice Ao22 y135.length co22)) (fun _ hk => hk.2) (.slice Ao21 y144.length co21)) (fun _ h_ => h_.1))) (Kd.R_base ho26) hb); have n2_ := Aside0.mk (Kd.R_lower (Kd.R_new' ho26 (Kd.R_lt (by (with_reducible repeat (first | apply Kd.R_alloc | apply Kd.R_drewN | apply Kd.R_drew)); exact (Kd.R_mono (Kd.R_far (p := ⟨gb147, 1, none⟩) (Kd.R_far (p := ⟨gb147, 0, none⟩) (Kd.R_types HO137.out BK147.out (by decide)) (fun _ hk => hk.2) (.slice Ao22 y135.length co22)) (fun _ hk => hk.2) (.slice Ao21 y144.length co21)) (fun _ h_ => h_.1))))) (below_size (by repeat (first | (with_reducible first | exact HB.out | apply below_alloc | apply pw_below_drewN | apply below_drew1 | refine below_set ?_ GE147.out) | exact HB.out)))); have n3_ := Aside0.mk (blk_below (g := gb147) (o := .cells #[.slice Ao22 y135.length co22, .slice Ao21 y144.length co21] 25 (0, 0)) (by (with_reducible repeat (first | refine blk_drewN ?_ _ | refine blk_drew ?_ | refine blk_alloc ?_ _)); refine blk_put (cs := #[.slice Ao22 y135.length co22, .slice none 0 0]) ?_ 1 _ rfl; (with_reducible repeat (first | refine blk_drewN ?_ _ | refine blk_drew ?_ | refine blk_alloc ?_ _)); refine blk_put (cs := #[.slice none 0 0, .slice none 0 0]) ?_ 0 _ rfl; (with_reducible repeat (first | refine blk_drewN ?_ _ | refine blk_drew ?_ | refine blk_alloc ?_ _)); exact BK147.out) hb); have n4_ := Aside0.mk (below_step (by repeat (first | (with_reducible first | exact HB.out | apply below_alloc | apply pw_below_drewN | apply below_drew1 | refine below_set ?_ GE147.out) | exact HB.out)) hb); clear HO137; clear HO146; clear BK147; clear HB; have HO137 := n0_; have HO146 := n1_; have HO150 := n2_; have BK147 := n3_; have HB := n4_; clear n0_ n1_ n2_ n3_ n4_; clear hb ho26) | ((with_reducible refine gate_dst (N := 16) rfl ?_); (try (refine gate_guard (by rfl) ?_; dsimp only)); refine Kd.R_lit Kd.string _ 9 ?hg (N := 16) ?hd (xs := ([(⟨#[49]⟩ : ByteArray), (⟨#[120]⟩ : ByteArray)] : List ByteArray)) (inner := [.string (⟨#[49]⟩ : ByteArray), .string (⟨#[120]⟩ : ByteArray)]) (ok := fun _ => True) (okp := fun _ => True) ?hr ?hp (fun _ hk => hk) trivial (Below.refl _ _) (Nat.le_refl _) (by simp) ?_; (case hd => rfl); (case hg => rfl); (case hr => first | (go_simp; done) | (go_simp; rfl)); (case hp => exact (Reps.one (show Kd.M Kd.string _ _ _ (⟨#[49]⟩ : ByteArray) [.string (⟨#[49]⟩ : ByteArray)] from rfl) (Reps.one (show Kd.M Kd.string _ _ _ (⟨#[120]⟩ : ByteArray) [.string (⟨#[120]⟩ : ByteArray)] from rfl) (Reps.none _ _)))); intro v152 w27 ho28 hb hg_ hnew_; clear hg_ hnew_; (first | rw [← Ny151.out] at ho28 | (simp only [Int.reduceToNat] at ho28; rw [← Ny151.out] at ho28)); have n0_ := Aside0.mk (Kd.R_elder' (by (with_reducible repeat (first | apply Kd.R_alloc | apply Kd.R_drewN | apply Kd.R_drew)); exact HO137.out) (Kd.R_base ho28) hb); have n1_ := Aside0.mk (Kd.N_elder' (by (with_reducible repeat (first | apply Kd.N_alloc | apply Kd.N_drewN | apply Kd.N_drew)); exact HO146.out) (Kd.R_base ho28) hb); have n2_ := Aside0.mk (Kd.R_elder' (by (with_reducible repeat (first | apply Kd.R_alloc | apply Kd.R_drewN | apply Kd.R_drew)); exact HO150.out) (Kd.R_base ho28) hb); have n3_ := Aside0.mk (Kd.R_lower (Kd.R_new' (Kd.R_new' ho28 (Kd.R_lt (by (with_reducible repeat (first | apply Kd.R_alloc | apply Kd.R_drewN | apply Kd.R_drew)); exact HO137.out))) (Kd.R_lt (by (with_reducible repeat (first | apply Kd.R_alloc | apply Kd.R_drewN | apply Kd.R_drew)); exact HO150.out))) (below_size (by repeat (first | (with_reducible first | exact HB.out | apply below_alloc | apply pw_below_drewN | apply below_drew1 | refine below_set ?_ GE147.out) | exact HB.out)))); have n4_ := Aside0.mk (blk_below (g := gb147) (o := .cells #[.slice Ao22 y135.length co22, .slice Ao21 y144.length co21] 25 (0, 0)) (by (with_reducible repeat (first | refine blk_drewN ?_ _ | refine blk_drew ?_ | refine blk_alloc ?_ _)); exact BK147.out) hb); have n5_ := Aside0.mk (below_step (by repeat (first | (with_reducible first | exact HB.out | apply below_alloc | apply pw_below_drewN | apply below_drew1 | refine below_set ?_ GE147.out) | exact HB.out)) hb); clear HO137; clear HO146; clear HO150; clear BK147; clear HB; have HO137 := n0_; have HO146 := n1_; have HO150 := n2_; have HO153 := n3_; have BK147 := n4_; have HB := n5_; clear n0_ n1_ n2_ n3_ n4_ n5_; clear hb ho28) | ((with_reducible refine gate_dst (N := 17) rfl ?_); (try (refine gate_guard (by rfl) ?_; dsimp only)); refine Kd.R_lit Kd.string _ 9 ?hg (N := 17) ?hd (xs := ([(⟨#[50]⟩ : ByteArray), (⟨#[121]⟩ : ByteArray)] : List ByteArray)) (inner := [.string (⟨#[50]⟩ : ByteArray), .string (⟨#[121]⟩ : ByteArray)]) (ok := fun _ => True) (okp := fun _ => True) ?hr ?hp (fun _ hk => hk) trivial (Below.refl _ _) (Nat.le_refl _) (by simp) ?_; (case hd => rfl); (case hg => rfl); (case hr => first | (go_simp; done) | (go_simp; rfl)); (case hp => exact (Reps.one (show Kd.M Kd.string _ _ _ (⟨#[50]⟩ : ByteArray) [.string (⟨#[50]⟩ : ByteArray)] from rfl) (Reps.one (show Kd.M Kd.string _ _ _ (⟨#[121]⟩ : ByteArray) [.string (⟨#[121]⟩ : ByteArray)] from rfl) (Reps.none _ _)))); intro v155 w29 ho30 hb hg_ hnew_; clear hg_ hnew_; (first | rw [← Ny154.out] at ho30 | (simp only [Int.reduceToNat] at ho30; rw [← Ny154.out] at ho30)); have n0_ := Aside0.mk (Kd.R_elder' (by (with_reducible repeat (first | apply Kd.R_alloc | apply Kd.R_drewN | apply Kd.R_drew)); exact HO137.out) (Kd.R_base ho30) hb); have n1_ := Aside0.mk (Kd.N_elder' (by (with_reducible repeat (first | apply Kd.N_alloc | apply Kd.N_drewN | apply Kd.N_drew)); exact HO146.out) (Kd.R_base ho30) hb); have n2_ := Aside0.mk (Kd.R_elder' (by (with_reducible repeat (first | apply Kd.R_alloc | apply Kd.R_drewN | apply Kd.R_drew)); exact HO150.out) (Kd.R_base ho30) hb); have n3_ := Aside0.mk (Kd.R_elder' (by (with_reducible repeat (first | apply Kd.R_alloc | apply Kd.R_drewN | apply Kd.R_drew)); exact HO153.out) (Kd.R_base ho30) hb); have n4_ := Aside0.mk (Kd.R_lower (Kd.R_new' (Kd.R_new' (Kd.R_new' ho30 (Kd.R_lt (by (with_reducible repeat (first | apply Kd.R_alloc | apply Kd.R_drewN | apply Kd.R_drew)); exact HO137.out))) (Kd.R_lt (by (with_reducible repeat (first | apply Kd.R_alloc | apply Kd.R_drewN | apply Kd.R_drew)); exact HO150.out))) (Kd.R_lt (by (with_reducible repeat (first | apply Kd.R_alloc | apply Kd.R_drewN | apply Kd.R_drew)); exact HO153.out))) (below_size (by repeat (first | (with_reducible first | exact HB.out | apply below_alloc | apply pw_below_drewN | apply below_drew1 | refine below_set ?_ GE147.out) | exact HB.out)))); have n5_ := Aside0.mk (blk_below (g := gb147) (o := .cells #[.slice Ao22 y135.length co22, .slice Ao21 y144.length co21] 25 (0, 0)) (by (with_reducible repeat (first | refine blk_drewN ?_ _ | refine blk_drew ?_ | refine blk_alloc ?_ _)); exact BK147.out) hb); have n6_ := Aside0.mk (below_step (by repeat (first | (with_reducible first | exact HB.out | apply below_alloc | apply pw_below_drewN | apply below_drew1 | refine below_set ?_ GE147.out) | exact HB.out)) hb); clear HO137; clear HO146; clear HO150; clear HO153; clear BK147; clear HB; have HO137 := n0_; have HO146 := n1_; have HO150 := n2_; have HO153 := n3_; have HO156 := n4_; have BK147 := n5_; have HB := n6_; clear n0_ n1_ n2_ n3_ n4_ n5_ n6_; clear hb ho30; obtain ⟨Ao31, co31, eo31⟩ := Kd.R_slice HO153.out; subst eo31; obtain ⟨Ao32, co32, eo32⟩ := Kd.R_slice HO156.out; subst eo32) | ((with_reducible refine gate_dst (N := 18) rfl ?_); (try (refine gate_guard (by rfl) ?_; dsimp only)); refine Kd.N_lit (Kd.slice 9 Kd.string) _ 22 ?hg (N' := 18) ?hd (xs := ([y151, y154] : List (List ByteArray))) (inner := [.slice Ao31 y151.length co31, .slice Ao32 y154.length co32]) (ok := (fun k_ => some k_ ≠ (.slice Ao22 y135.length co22 : Value).ownBlock ∧ some k_ ≠ (.slice Ao21 y144.length co21 : Value).ownBlock ∧ some k_ ≠ (v149 : Value).ownBlock ∧ k_ ≠ gb147)) (okp := (fun k_ => some k_ ≠ (.slice Ao22 y135.length co22 : Value).ownBlock ∧ some k_ ≠ (.slice Ao21 y144.length co21 : Value).ownBlock ∧ some k_ ≠ (v149 : Value).ownBlock ∧ k_ ≠ gb147)) ?hr ?hp (fun _ hk => hk) ((show ∀ k_, w29.heap.size ≤ k_ → (fun k_ => some k_ ≠ (.slice Ao22 y135.length co22 : Value).ownBlock ∧ some k_ ≠ (.slice Ao21 y144.length co21 : Value).ownBlock ∧ some k_ ≠ (v149 : Value).ownBlock ∧ k_ ≠ gb147) k_ from fun k_ hk => ⟨Kd.fresh' (Kd.R_lt (by (with_reducible repeat (first | apply Kd.R_alloc | apply Kd.R_drewN | apply Kd.R_drew)); exact HO137.out)) k_ hk, Kd.fresh' (Kd.N_lt (by (with_reducible repeat (first | apply Kd.N_alloc | apply Kd.N_drewN | apply Kd.N_drew)); exact HO146.out)) k_ hk, Kd.fresh' (Kd.R_lt (by (with_reducible repeat (first | apply Kd.R_alloc | apply Kd.R_drewN | apply Kd.R_drew)); exact HO150.out)) k_ hk, Kd.freshB (g := gb147) (o := .cells #[.slice Ao22 y135.length co22, .slice Ao21 y144.length co21] 25 (0, 0)) (by (with_reducible repeat (first | refine blk_drewN ?_ _ | refine blk_drew ?_ | refine blk_alloc ?_ _)); exact BK147.out) k_ hk⟩) _ (Nat.le_refl _)) (Below.refl _ _) (Nat.le_refl _) (by simp) ?_; (case hd => rfl); (case hg => rfl); (case hr => first | (go_simp; done) | (go_simp; rfl)); (case hp => exact (Reps.one (show Kd.FK (Kd.slice 9 Kd.string) _ _ y151 [.slice Ao31 y151.length co31] from (Kd.FK_slice_mk (Kd.R_reads' (Kd.R_mono (ok' := (fun k_ => some k_ ≠ (.slice Ao22 y135.length co22 : Value).ownBlock ∧ some k_ ≠ (.slice Ao21 y144.length co21 : Value).ownBlock ∧ some k_ ≠ (v149 : Value).ownBlock ∧ k_ ≠ gb147)) (Kd.R_types (Kd.R_apart' (HO153.out) (Kd.N_typed HO146.out) (by decide)) BK147.out (by decide)) (fun k_ hk => ⟨hk.1.1.1.1.2, ⟨hk.1.2, ⟨hk.1.1.1.2, hk.2⟩⟩⟩))).2.1 (Kd.R_F (Kd.R_mono (ok' := (fun k_ => some k_ ≠ (.slice Ao22 y135.length co22 : Value).ownBlock ∧ some k_ ≠ (.slice Ao21 y144.length co21 : Value).ownBlock ∧ some k_ ≠ (v149 : Value).ownBlock ∧ k_ ≠ gb147)) (Kd.R_types (Kd.R_apart' (HO153.out) (Kd.N_typed HO146.out) (by decide)) BK147.out (by decide)) (fun k_ hk => ⟨hk.1.1.1.1.2, ⟨hk.1.2, ⟨hk.1.1.1.2, hk.2⟩⟩⟩))))) (Reps.one (show Kd.FK (Kd.slice 9 Kd.string) _ _ y154 [.slice Ao32 y154.length co32] from (Kd.FK_slice_mk (Kd.R_reads' (Kd.R_mono (ok' := (fun k_ => some k_ ≠ (.slice Ao22 y135.length co22 : Value).ownBlock ∧ some k_ ≠ (.slice Ao21 y144.length co21 : Value).ownBlock ∧ some k_ ≠ (v149 : Value).ownBlock ∧ k_ ≠ gb147)) (Kd.R_types (Kd.R_apart' (HO156.out) (Kd.N_typed HO146.out) (by decide)) BK147.out (by decide)) (fun k_ hk => ⟨hk.1.1.1.1.2, ⟨hk.1.2, ⟨hk.1.1.1.2, hk.2⟩⟩⟩))).2.1 (Kd.R_F (Kd.R_mono (ok' := (fun k_ => some k_ ≠ (.slice Ao22 y135.length co22 : Value).ownBlock ∧ some k_ ≠ (.slice Ao21 y144.length co21 : Value).ownBlock ∧ some k_ ≠ (v149 : Value).ownBlock ∧ k_ ≠ gb147)) (Kd.R_types (Kd.R_apart' (HO156.out) (Kd.N_typed HO146.out) (by decide)) BK147.out (by decide)) (fun k_ hk => ⟨hk.1.1.1.1.2, ⟨hk.1.2, ⟨hk.1.1.1.2, hk.2⟩⟩⟩))))) (Reps.none _ _)))); intro v158 w33 ho34 hb hg_ hnew_; clear hg_ hnew_; (first | rw [← Ny157.out] at ho34 | (simp only [Int.reduceToNat] at ho34; rw [← Ny157.out] at ho34)); have n0_ := Aside0.mk (Kd.R_below (by (with_reducible repeat (first | apply Kd.R_alloc | apply Kd.R_drewN | apply Kd.R_drew)); exact HO137.out) hb); have n1_ := Aside0.mk (Kd.N_elder' (by (with_reducible repeat (first | apply Kd.N_alloc | apply Kd.N_drewN | apply Kd.N_drew)); exact HO146.out) (by first | exact Kd.N_base ho34 | exact Kd.S_base ho34 | exact Kd.R_base ho34) hb); have n2_ := Aside0.mk (Kd.R_below (by (with_reducible repeat (first | apply Kd.R_alloc | apply Kd.R_drewN | apply Kd.R_drew)); exact HO150.out) hb); have n3_ := Aside0.mk (Kd.N_lower ho34 (below_size (by repeat (first | (with_reducible first | exact HB.out | apply below_alloc | apply pw_below_drewN | apply below_drew1 | refine below_set ?_ GE147.out) | exact HB.out)))); have n4_ := Aside0.mk (blk_below (g := gb147) (o := .cells #[.slice Ao22 y135.length co22, .slice Ao21 y144.length co21] 25 (0, 0)) (by (with_reducible repeat (first | refine blk_drewN ?_ _ | refine blk_drew ?_ | refine blk_alloc ?_ _)); exact BK147.out) hb); have n5_ := Aside0.mk (below_step (by repeat (first | (with_reducible first | exact HB.out | apply below_alloc | apply pw_below_drewN | apply below_drew1 | refine below_set ?_ GE147.out) | exact HB.out)) hb); clear HO137; clear HO146; clear HO150; clear BK147; clear HB; clear HO153; clear HO156; have HO137 := n0_; have HO146 := n1_; have HO150 := n2_; have HO159 := n3_; have BK147 := n4_; have HB := n5_; clear n0_ n1_ n2_ n3_ n4_ n5_; clear hb ho34; obtain ⟨Ao35, co35, eo35⟩ := Kd.N_slice HO159.out; subst eo35; obtain ⟨Ao36, co36, eo36⟩ := Kd.R_slice HO150.out; subst eo36) | ((with_reducible refine gate_dst (N := 2) rfl ?_); (try (refine gate_guard (by rfl) ?_; dsimp only)); refine box_event ?hg (N := 2) ?hd (cs := #[.slice none 0 0, .slice none 0 0]) (t := 25) ?hr ?_; (case hd => rfl); (case hg => rfl); (case hr => first | (go_simp; done) | (go_simp; rfl)); intro gb160 hg w37 hbox hb; have n0_ := Aside0.mk (Kd.R_below (by (with_reducible repeat (first | apply Kd.R_alloc | apply Kd.R_drewN | apply Kd.R_drew)); exact HO137.out) hb); have n1_ := Aside0.mk (Kd.N_below (Kd.N_elderB (by (with_reducible repeat (first | apply Kd.N_alloc | apply Kd.N_drewN | apply Kd.N_drew)); exact HO146.out) gb160 (Nat.le_of_eq hg.symm)) hb); have n2_ := Aside0.mk (Kd.R_below (by (with_reducible repeat (first | apply Kd.R_alloc | apply Kd.R_drewN | apply Kd.R_drew)); exact HO150.out) hb); have n3_ := Aside0.mk (Kd.N_below (Kd.N_elderB (by (with_reducible repeat (first | apply Kd.N_alloc | apply Kd.N_drewN | apply Kd.N_drew)); exact HO159.out) gb160 (Nat.le_of_eq hg.symm)) hb); have n4_ := Aside0.mk (blk_below (g := gb147) (o := .cells #[.slice Ao22 y135.length co22, .slice Ao21 y144.length co21] 25 (0, 0)) (by (with_reducible repeat (first | refine blk_drewN ?_ _ | refine blk_drew ?_ | refine blk_alloc ?_ _)); exact BK147.out) hb); have n5_ := Aside0.mk (below_step (by repeat (first | (with_reducible first | exact HB.out | apply below_alloc | apply pw_below_drewN | apply below_drew1 | refine below_set ?_ GE147.out) | exact HB.out)) hb); have n6_ := Aside0.mk (hbox); have n7_ := Aside0.mk ((by rw [hg]; exact (below_size (by repeat (first | (with_reducible first | exact HB.out | apply below_alloc | apply pw_below_drewN | apply below_drew1 | refine below_set ?_ GE147.out) | exact HB.out))) : w.heap.size ≤ gb160)); have n8_ := Aside0.mk ((by rw [hg]; exact (below_size (by repeat (first | (with_reducible first | exact HB.out | apply below_alloc | apply pw_below_drewN | apply below_drew1 | refine below_set ?_ GE147.out) | exact HB.out))) : w.heap.size ≤ gb160)); have n9_ := Aside0.mk ((by rw [hg]; exact Nat.ne_of_lt (blk_lt (g := gb147) (o := .cells #[.slice Ao22 y135.length co22, .slice Ao21 y144.length co21] 25 (0, 0)) (by (with_reducible repeat (first | refine blk_drewN ?_ _ | refine blk_drew ?_ | refine blk_alloc ?_ _)); exact BK147.out)) : gb147 ≠ gb160)); have n10_ := Aside0.mk ((by rw [hg]; exact Nat.ne_of_gt (blk_lt (g := gb147) (o := .cells #[.slice Ao22 y135.length co22, .slice Ao21 y144.length co21] 25 (0, 0)) (by (with_reducible repeat (first | refine blk_drewN ?_ _ | refine blk_drew ?_ | refine blk_alloc ?_ _)); exact BK147.out)) : gb160 ≠ gb147)); clear HO137; clear HO146; clear HO150; clear HO159; clear BK147; clear HB; have HO137 := n0_; have HO146 := n1_; have HO150 := n2_; have HO159 := n3_; have BK147 := n4_; have HB := n5_; have BK160 := n6_; have GW160 := n7_; have GE160 := n8_; have NB147_160 := n9_; have NB160_147 := n10_; clear n0_ n1_ n2_ n3_ n4_ n5_ n6_ n7_ n8_ n9_ n10_; clear hb hbox hg; have hnb38 := NB160_147.out; have hnc38 := NB147_160.out; have hcz39_0 : w37.cell? ⟨gb160, 0, none⟩ = some (.slice none 0 0) := (blk_cell BK160.out 0).trans rfl; have hcz39_1 : w37.cell? ⟨gb160, 1, none⟩ = some (.slice none 0 0) := (blk_cell BK160.out 1).trans rfl; have hfz39_0 := blk_frozen BK160.out 0; have hfz39_1 := blk_frozen BK160.out 1; have hcz40_0 : w37.cell? ⟨gb147, 0, none⟩ = some (.slice Ao22 y135.length co22) := (blk_cell BK147.out 0).trans rfl; have hcz40_1 : w37.cell? ⟨gb147, 1, none⟩ = some (.slice Ao21 y144.length co21) := (blk_cell BK147.out 1).trans rfl; have hfz40_0 := blk_frozen BK147.out 0; have hfz40_1 := blk_frozen BK147.out 1) | ((with_reducible refine gate_callee (f := 10) rfl ?_); refine goesL_ (some 23) rfl rfl Try.func10 (by kernel_rfl) rfl #[.agg #[.slice Ao22 y135.length co22, .slice Ao21 y144.length co21], .agg #[.slice Ao36 y148.length co36, .slice Ao35 y157.length co35], .bool true] rfl (by (try simp only [List.map_toArray, List.map_cons, List.map_nil]); first | done | rfl | (simp only [List.length_drop, List.length_take]; rfl)) ?_; (with_reducible refine (cols_Align.calls _ _ y135 _ _ y144 _ _ y148 _ _ y157 true t161 t164 _ ?side1 ?side2 ?side3 ?side4 ?side5 ?side6 ?side7 ?side8 A1.out).mono ?_); (case side1 => refine (Kd.R_reads' (e := 9) (base := w.heap.size) (ok := fun k_ => (((((True ∧ some k_ ≠ (.slice Ao17 y138.length co17 : Value).ownBlock) ∧ some k_ ≠ (.slice Ao18 y141.length co18 : Value).ownBlock) ∧ some k_ ≠ (.slice Ao36 y148.length co36 : Value).ownBlock) ∧ some k_ ≠ (.slice Ao31 y151.length co31 : Value).ownBlock) ∧ some k_ ≠ (.slice Ao32 y154.length co32 : Value).ownBlock)) (n := y135.length) (c := co22) ?_).2.2; exact (by (with_reducible repeat (first | apply Kd.R_alloc | apply Kd.R_drewN | apply Kd.R_drew)); exact (Kd.R_mono (Kd.R_far (p := ⟨gb160, 1, none⟩) (Kd.R_far (p := ⟨gb160, 0, none⟩) (Kd.R_types HO137.out BK160.out (by decide)) (fun _ hk => hk.2) (.slice Ao36 y148.length co36)) (fun _ hk => hk.2) (.slice Ao35 y157.length co35)) (fun _ h_ => h_.1)))); (case side2 => exact (Kd.R_reads' HO137.out).2.1); (case side3 => refine (Kd.N_reads' (e := 22) (base := w.heap.size) (ok := fun k_ => ((((((some k_ ≠ (.slice Ao22 y135.length co22 : Value).ownBlock ∧ k_ ≠ gb147) ∧ some k_ ≠ (.slice Ao36 y148.length co36 : Value).ownBlock) ∧ some k_ ≠ (.slice Ao31 y151.length co31 : Value).ownBlock) ∧ some k_ ≠ (.slice Ao32 y154.length co32 : Value).ownBlock) ∧ some k_ ≠ (.slice Ao35 y157.length co35 : Value).ownBlock) ∧ k_ ≠ gb160)) (n := y144.length) (c := co21) ?_).2.2; exact (by (with_reducible repeat (first | apply Kd.N_alloc | apply Kd.N_drewN | apply Kd.N_drew)); exact (Kd.N_mono (Kd.N_far (p := ⟨gb160, 1, none⟩) (Kd.N_far (p := ⟨gb160, 0, none⟩) (Kd.N_mono HO146.out (fun k_ hk => (⟨hk, hk.2⟩ : _ ∧ k_ ≠ gb160))) (fun _ hk => hk.2) (.slice Ao36 y148.length co36)) (fun _ hk => hk.2) (.slice Ao35 y157.length co35)) (fun _ h_ => h_.1)))); (case side4 => exact (Kd.N_reads' HO146.out).2.1); (case side5 => refine (Kd.R_reads' (e := 9) (base := w.heap.size) (ok := fun k_ => (((True ∧ some k_ ≠ (.slice Ao22 y135.length co22 : Value).ownBlock) ∧ some k_ ≠ (.slice Ao31 y151.length co31 : Value).ownBlock) ∧ some k_ ≠ (.slice Ao32 y154.length co32 : Value).ownBlock)) (n := y148.length) (c := co36) ?_).2.2; exact (by (with_reducible repeat (first | apply Kd.R_alloc | apply Kd.R_drewN | apply Kd.R_drew)); exact (Kd.R_mono (Kd.R_far (p := ⟨gb160, 1, none⟩) (Kd.R_far (p := ⟨gb160, 0, none⟩) (Kd.R_types HO150.out BK160.out (by decide)) (fun _ hk => hk.2) (.slice Ao36 y148.length co36)) (fun _ hk => hk.2) (.slice Ao35 y157.length co35)) (fun _ h_ => h_.1)))); (case side6 => exact (Kd.R_reads' HO150.out).2.1); (case side7 => refine (Kd.N_reads' (e := 22) (base := w.heap.size) (ok := fun k_ => ((some k_ ≠ (.slice Ao22 y135.length co22 : Value).ownBlock ∧ (some k_ ≠ (.slice Ao21 y144.length co21 : Value).ownBlock ∧ (some k_ ≠ (.slice Ao36 y148.length co36 : Value).ownBlock ∧ k_ ≠ gb147))) ∧ k_ ≠ gb160)) (n := y157.length) (c := co35) ?_).2.2; exact (by (with_reducible repeat (first | apply Kd.N_alloc | apply Kd.N_drewN | apply Kd.N_drew)); exact (Kd.N_mono (Kd.N_far (p := ⟨gb160, 1, none⟩) (Kd.N_far (p := ⟨gb160, 0, none⟩) (Kd.N_mono HO159.out (fun k_ hk => (⟨hk, hk.2⟩ : _ ∧ k_ ≠ gb160))) (fun _ hk => hk.2) (.slice Ao36 y148.length co36)) (fun _ hk => hk.2) (.slice Ao35 y157.length co35)) (fun _ h_ => h_.1)))); (case side8 => exact (Kd.N_reads' HO159.out).2.1); rintro e w41 ⟨v162, rfl, ho0, hb⟩; refine ⟨_, rfl, ?_⟩; have n0_ := Aside0.mk (Kd.R_below (by (with_reducible repeat (first | apply Kd.R_alloc | apply Kd.R_drewN | apply Kd.R_drew)); exact (Kd.R_mono (Kd.R_far (p := ⟨gb160, 1, none⟩) (Kd.R_far (p := ⟨gb160, 0, none⟩) (Kd.R_types HO137.out BK160.out (by decide)) (fun _ hk => hk.2) (.slice Ao36 y148.length co36)) (fun _ hk => hk.2) (.slice Ao35 y157.length co35)) (fun _ h_ => h_.1))) hb); have n1_ := Aside0.mk (Kd.N_elder' (by (with_reducible repeat (first | apply Kd.N_alloc | apply Kd.N_drewN | apply Kd.N_drew)); exact (Kd.N_mono (Kd.N_far (p := ⟨gb160, 1, none⟩) (Kd.N_far (p := ⟨gb160, 0, none⟩) (Kd.N_mono HO146.out (fun k_ hk => (⟨hk, hk.2⟩ : _ ∧ k_ ≠ gb160))) (fun _ hk => hk.2) (.slice Ao36 y148.length co36)) (fun _ hk => hk.2) (.slice Ao35 y157.length co35)) (fun _ h_ => h_.1))) (Kd.R_base ho0) hb); have n2_ := Aside0.mk (Kd.R_below (by (with_reducible repeat (first | apply Kd.R_alloc | apply Kd.R_drewN | apply Kd.R_drew)); exact (Kd.R_mono (Kd.R_far (p := ⟨gb160, 1, none⟩) (Kd.R_far (p := ⟨gb160, 0, none⟩) (Kd.R_types HO150.out BK160.out (by decide)) (fun _ hk => hk.2) (.slice Ao36 y148.length co36)) (fun _ hk => hk.2) (.slice Ao35 y157.length co35)) (fun _ h_ => h_.1))) hb); have n3_ := Aside0.mk (Kd.N_elder' (by (with_reducible repeat (first | apply Kd.N_alloc | apply Kd.N_drewN | apply Kd.N_drew)); exact (Kd.N_mono (Kd.N_far (p := ⟨gb160, 1, none⟩) (Kd.N_far (p := ⟨gb160, 0, none⟩) (Kd.N_mono HO159.out (fun k_ hk => (⟨hk, hk.2⟩ : _ ∧ k_ ≠ gb160))) (fun _ hk => hk.2) (.slice Ao36 y148.length co36)) (fun _ hk => hk.2) (.slice Ao35 y157.length co35)) (fun _ h_ => h_.1))) (Kd.R_base ho0) hb); have n4_ := Aside0.mk (Kd.R_lower ho0 (below_size (by repeat (first | (with_reducible first | exact HB.out | apply below_alloc | apply pw_below_drewN | apply below_drew1 | refine below_set ?_ GE147.out | refine below_set ?_ GE160.out) | exact HB.out)))); have n5_ := Aside0.mk (blk_below (g := gb147) (o := .cells #[.slice Ao22 y135.length co22, .slice Ao21 y144.length co21] 25 (0, 0)) (by (with_reducible repeat (first | refine blk_drewN ?_ _ | refine blk_drew ?_ | refine blk_alloc ?_ _)); refine blk_far ?_ NB147_160.out _; (with_reducible repeat (first | refine blk_drewN ?_ _ | refine blk_drew ?_ | refine blk_alloc ?_ _)); refine blk_far ?_ NB147_160.out _; (with_reducible repeat (first | refine blk_drewN ?_ _ | refine blk_drew ?_ | refine blk_alloc ?_ _)); exact BK147.out) hb); have n6_ := Aside0.mk (blk_below (g := gb160) (o := .cells #[.slice Ao36 y148.length co36, .slice Ao35 y157.length co35] 25 (0, 0)) (by (with_reducible repeat (first | refine blk_drewN ?_ _ | refine blk_drew ?_ | refine blk_alloc ?_ _)); refine blk_put (cs := #[.slice Ao36 y148.length co36, .slice none 0 0]) ?_ 1 _ rfl; (with_reducible repeat (first | refine blk_drewN ?_ _ | refine blk_drew ?_ | refine blk_alloc ?_ _)); refine blk_put (cs := #[.slice none 0 0, .slice none 0 0]) ?_ 0 _ rfl; (with_reducible repeat (first | refine blk_drewN ?_ _ | refine blk_drew ?_ | refine blk_alloc ?_ _)); exact BK160.out) hb); have n7_ := Aside0.mk (below_step (by repeat (first | (with_reducible first | exact HB.out | apply below_alloc | apply pw_below_drewN | apply below_drew1 | refine below_set ?_ GE147.out | refine below_set ?_ GE160.out) | exact HB.out)) hb); clear HO137; clear HO146; clear HO150; clear HO159; clear BK147; clear BK160; clear HB; have HO137 := n0_; have HO146 := n1_; have HO150 := n2_; have HO159 := n3_; have HO163 := n4_; have BK147 := n5_; have BK160 := n6_; have HB := n7_; clear n0_ n1_ n2_ n3_ n4_ n5_ n6_ n7_; (try clear hb); (try clear hb2); (try clear hk); (try clear hi); (try clear ho0); have hcz42_0 : w41.cell? ⟨gb147, 0, none⟩ = some (.slice Ao22 y135.length co22) := (blk_cell BK147.out 0).trans rfl; have hcz42_1 : w41.cell? ⟨gb147, 1, none⟩ = some (.slice Ao21 y144.length co21) := (blk_cell BK147.out 1).trans rfl; have hfz42_0 := blk_frozen BK147.out 0; have hfz42_1 := blk_frozen BK147.out 1; have hcz43_0 : w41.cell? ⟨gb160, 0, none⟩ = some (.slice Ao36 y148.length co36) := (blk_cell BK160.out 0).trans rfl; have hcz43_1 : w41.cell? ⟨gb160, 1, none⟩ = some (.slice Ao35 y157.length co35) := (blk_cell BK160.out 1).trans rfl; have hfz43_0 := blk_frozen BK160.out 0; have hfz43_1 := blk_frozen BK160.out 1) | ((with_reducible refine gate_callee (f := 10) rfl ?_); refine goesL_ (some 29) rfl rfl Try.func10 (by kernel_rfl) rfl #[.agg #[.slice Ao22 y135.length co22, .slice Ao21 y144.length co21], .agg #[.slice Ao36 y148.length co36, .slice Ao35 y157.length co35], .bool false] rfl (by (try simp only [List.map_toArray, List.map_cons, List.map_nil]); first | done | rfl | (simp only [List.length_drop, List.length_take]; rfl)) ?_; (with_reducible refine (cols_Align.calls _ _ y135 _ _ y144 _ _ y148 _ _ y157 false t165 t168 _ ?side1 ?side2 ?side3 ?side4 ?side5 ?side6 ?side7 ?side8 A2.out).mono ?_); (case side1 => repeat (first | exact (Kd.R_reads' HO137.out).2.2 | (with_reducible refine Kd.C_alloc ?_ _) | (with_reducible refine Kd.C_drewN ?_ _) | (with_reducible refine Kd.C_drew ?_))); (case side2 => exact (Kd.R_reads' HO137.out).2.1); (case side3 => repeat (first | exact (Kd.N_reads' HO146.out).2.2 | (with_reducible refine Kd.C_alloc ?_ _) | (with_reducible refine Kd.C_drewN ?_ _) | (with_reducible refine Kd.C_drew ?_))); (case side4 => exact (Kd.N_reads' HO146.out).2.1); (case side5 => repeat (first | exact (Kd.R_reads' HO150.out).2.2 | (with_reducible refine Kd.C_alloc ?_ _) | (with_reducible refine Kd.C_drewN ?_ _) | (with_reducible refine Kd.C_drew ?_))); (case side6 => exact (Kd.R_reads' HO150.out).2.1); (case side7 => repeat (first | exact (Kd.N_reads' HO159.out).2.2 | (with_reducible refine Kd.C_alloc ?_ _) | (with_reducible refine Kd.C_drewN ?_ _) | (with_reducible refine Kd.C_drew ?_))); (case side8 => exact (Kd.N_reads' HO159.out).2.1); rintro e w44 ⟨v166, rfl, ho0, hb⟩; refine ⟨_, rfl, ?_⟩; have n0_ := Aside0.mk (Kd.R_below (by (with_reducible repeat (first | apply Kd.R_alloc | apply Kd.R_drewN | apply Kd.R_drew)); exact HO137.out) hb); have n1_ := Aside0.mk (Kd.N_elder' (by (with_reducible repeat (first | apply Kd.N_alloc | apply Kd.N_drewN | apply Kd.N_drew)); exact HO146.out) (Kd.R_base ho0) hb); have n2_ := Aside0.mk (Kd.R_below (by (with_reducible repeat (first | apply Kd.R_alloc | apply Kd.R_drewN | apply Kd.R_drew)); exact HO150.out) hb); have n3_ := Aside0.mk (Kd.N_elder' (by (with_reducible repeat (first | apply Kd.N_alloc | apply Kd.N_drewN | apply Kd.N_drew)); exact HO159.out) (Kd.R_base ho0) hb); have n4_ := Aside0.mk (Kd.R_elder' (by (with_reducible repeat (first | apply Kd.R_alloc | apply Kd.R_drewN | apply Kd.R_drew)); exact HO163.out) (Kd.R_base ho0) hb); have n5_ := Aside0.mk (Kd.R_lower (Kd.R_new' ho0 (Kd.R_lt (by (with_reducible repeat (first | apply Kd.R_alloc | apply Kd.R_drewN | apply Kd.R_drew)); exact HO163.out))) (below_size (by repeat (first | (with_reducible first | exact HB.out | apply below_alloc | apply pw_below_drewN | apply below_drew1 | refine below_set ?_ GE147.out | refine below_set ?_ GE160.out) | exact HB.out)))); have n6_ := Aside0.mk (blk_below (g := gb147) (o := .cells #[.slice Ao22 y135.length co22, .slice Ao21 y144.length co21] 25 (0, 0)) (by (with_reducible repeat (first | refine blk_drewN ?_ _ | refine blk_drew ?_ | refine blk_alloc ?_ _)); exact BK147.out) hb); have n7_ := Aside0.mk (blk_below (g := gb160) (o := .cells #[.slice Ao36 y148.length co36, .slice Ao35 y157.length co35] 25 (0, 0)) (by (with_reducible repeat (first | refine blk_drewN ?_ _ | refine blk_drew ?_ | refine blk_alloc ?_ _)); exact BK160.out) hb); have n8_ := Aside0.mk (below_step (by repeat (first | (with_reducible first | exact HB.out | apply below_alloc | apply pw_below_drewN | apply below_drew1 | refine below_set ?_ GE147.out | refine below_set ?_ GE160.out) | exact HB.out)) hb); clear HO137; clear HO146; clear HO150; clear HO159; clear HO163; clear BK147; clear BK160; clear HB; have HO137 := n0_; have HO146 := n1_; have HO150 := n2_; have HO159 := n3_; have HO163 := n4_; have HO167 := n5_; have BK147 := n6_; have BK160 := n7_; have HB := n8_; clear n0_ n1_ n2_ n3_ n4_ n5_ n6_ n7_ n8_; (try clear hb); (try clear hb2); (try clear hk); (try clear hi); (try clear ho0); have hcz45_0 : w44.cell? ⟨gb147, 0, none⟩ = some (.slice Ao22 y135.length co22) := (blk_cell BK147.out 0).trans rfl; have hcz45_1 : w44.cell? ⟨gb147, 1, none⟩ = some (.slice Ao21 y144.length co21) := (blk_cell BK147.out 1).trans rfl; have hfz45_0 := blk_frozen BK147.out 0; have hfz45_1 := blk_frozen BK147.out 1) | ((with_reducible refine gate_callee (f := 10) rfl ?_); refine goesL_ (some 35) rfl rfl Try.func10 (by kernel_rfl) rfl #[.agg #[.slice Ao22 y135.length co22, .slice Ao21 y144.length co21], .agg #[.slice none 0 0, .slice none 0 0], .bool true] rfl (by (try simp only [List.map_toArray, List.map_cons, List.map_nil]); first | done | rfl | (simp only [List.length_drop, List.length_take]; rfl)) ?_; (refine (cols_Align.calls _ _ y135 _ _ y144 _ _ ([] : List ByteArray) _ _ ([] : List (List ByteArray)) true t169 t172 _ ?side1 ?side2 ?side3 ?side4 ?side5 ?side6 ?side7 ?side8 A3.out).mono ?_); (case side1 => repeat (first | exact (Kd.R_reads' HO137.out).2.2 | (with_reducible refine Kd.C_alloc ?_ _) | (with_reducible refine Kd.C_drewN ?_ _) | (with_reducible refine Kd.C_drew ?_))); (case side2 => exact (Kd.R_reads' HO137.out).2.1); (case side3 => repeat (first | exact (Kd.N_reads' HO146.out).2.2 | (with_reducible refine Kd.C_alloc ?_ _) | (with_reducible refine Kd.C_drewN ?_ _) | (with_reducible refine Kd.C_drew ?_))); (case side4 => exact (Kd.N_reads' HO146.out).2.1); (case side5 => exact Kd.C_nil _ _); (case side6 => exact Nat.le_refl _); (case side7 => exact Kd.C_nil _ _); (case side8 => exact Nat.le_refl _); rintro e w46 ⟨v170, rfl, ho0, hb⟩; refine ⟨_, rfl, ?_⟩; have n0_ := Aside0.mk (Kd.R_below (by (with_reducible repeat (first | apply Kd.R_alloc | apply Kd.R_drewN | apply Kd.R_drew)); exact HO137.out) hb); have n1_ := Aside0.mk (Kd.N_elder' (by (with_reducible repeat (first | apply Kd.N_alloc | apply Kd.N_drewN | apply Kd.N_drew)); exact HO146.out) (Kd.R_base ho0) hb); have n2_ := Aside0.mk (Kd.R_below (by (with_reducible repeat (first | apply Kd.R_alloc | apply Kd.R_drewN | apply Kd.R_drew)); exact HO150.out) hb); have n3_ := Aside0.mk (Kd.N_elder' (by (with_reducible repeat (first | apply Kd.N_alloc | apply Kd.N_drewN | apply Kd.N_drew)); exact HO159.out) (Kd.R_base ho0) hb); have n4_ := Aside0.mk (Kd.R_elder' (by (with_reducible repeat (first | apply Kd.R_alloc | apply Kd.R_drewN | apply Kd.R_drew)); exact HO163.out) (Kd.R_base ho0) hb); have n5_ := Aside0.mk (Kd.R_elder' (by (with_reducible repeat (first | apply Kd.R_alloc | apply Kd.R_drewN | apply Kd.R_drew)); exact HO167.out) (Kd.R_base ho0) hb); have n6_ := Aside0.mk (Kd.R_lower (Kd.R_new' (Kd.R_new' ho0 (Kd.R_lt (by (with_reducible repeat (first | apply Kd.R_alloc | apply Kd.R_drewN | apply Kd.R_drew)); exact HO163.out))) (Kd.R_lt (by (with_reducible repeat (first | apply Kd.R_alloc | apply Kd.R_drewN | apply Kd.R_drew)); exact HO167.out))) (below_size (by repeat (first | (with_reducible first | exact HB.out | apply below_alloc | apply pw_below_drewN | apply below_drew1 | refine below_set ?_ GE147.out | refine below_set ?_ GE160.out) | exact HB.out)))); have n7_ := Aside0.mk (blk_below (g := gb147) (o := .cells #[.slice Ao22 y135.length co22, .slice Ao21 y144.length co21] 25 (0, 0)) (by (with_reducible repeat (first | refine blk_drewN ?_ _ | refine blk_drew ?_ | refine blk_alloc ?_ _)); exact BK147.out) hb); have n8_ := Aside0.mk (blk_below (g := gb160) (o := .cells #[.slice Ao36 y148.length co36, .slice Ao35 y157.length co35] 25 (0, 0)) (by (with_reducible repeat (first | refine blk_drewN ?_ _ | refine blk_drew ?_ | refine blk_alloc ?_ _)); exact BK160.out) hb); have n9_ := Aside0.mk (below_step (by repeat (first | (with_reducible first | exact HB.out | apply below_alloc | apply pw_below_drewN | apply below_drew1 | refine below_set ?_ GE147.out | refine below_set ?_ GE160.out) | exact HB.out)) hb); clear HO137; clear HO146; clear HO150; clear HO159; clear HO163; clear HO167; clear BK147; clear BK160; clear HB; have HO137 := n0_; have HO146 := n1_; have HO150 := n2_; have HO159 := n3_; have HO163 := n4_; have HO167 := n5_; have HO171 := n6_; have BK147 := n7_; have BK160 := n8_; have HB := n9_; clear n0_ n1_ n2_ n3_ n4_ n5_ n6_ n7_ n8_ n9_; (try clear hb); (try clear hb2); (try clear hk); (try clear hi); (try clear ho0)) | ((with_reducible refine gate_dst (N := 41) rfl ?_); (try (refine gate_guard (by rfl) ?_; dsimp only)); refine Kd.R_lit k37 _ 37 ?hg (N := 41) ?hd (xs := ([(⟨0, 0⟩ : S37), (⟨1, 1⟩ : S37)] : List (S37))) (inner := [.int .i64 0, .int .i64 0, .int .i64 1, .int .i64 1]) (ok := fun _ => True) (okp := fun _ => True) ?hr ?hp (fun _ hk => hk) trivial (Below.refl _ _) (Nat.le_refl _) (by simp) ?_; (case hd => rfl); (case hg => rfl); (case hr => first | (go_simp; done) | (go_simp; rfl)); (case hp => exact (Reps.c2 (show Kd.M k37 _ _ _ (⟨0, 0⟩ : S37) [.int .i64 0, .int .i64 0] from (k37_mkM _ _ _ (⟨0, 0⟩ : S37) )) (Reps.c2 (show Kd.M k37 _ _ _ (⟨1, 1⟩ : S37) [.int .i64 1, .int .i64 1] from (k37_mkM _ _ _ (⟨1, 1⟩ : S37) )) (Reps.none _ _)))); intro v174 w47 ho48 hb hg_ hnew_; clear hg_ hnew_; (first | rw [← Ny173.out] at ho48 | (simp only [Int.reduceToNat] at ho48; rw [← Ny173.out] at ho48)); have n0_ := Aside0.mk (Kd.R_below (by (with_reducible repeat (first | apply Kd.R_alloc | apply Kd.R_drewN | apply Kd.R_drew)); exact HO137.out) hb); have n1_ := Aside0.mk (Kd.N_elder' (by (with_reducible repeat (first | apply Kd.N_alloc | apply Kd.N_drewN | apply Kd.N_drew)); exact HO146.out) (Kd.R_base ho48) hb); have n2_ := Aside0.mk (Kd.R_below (by (with_reducible repeat (first | apply Kd.R_alloc | apply Kd.R_drewN | apply Kd.R_drew)); exact HO150.out) hb); have n3_ := Aside0.mk (Kd.N_elder' (by (with_reducible repeat (first | apply Kd.N_alloc | apply Kd.N_drewN | apply Kd.N_drew)); exact HO159.out) (Kd.R_base ho48) hb); have n4_ := Aside0.mk (Kd.R_elder' (by (with_reducible repeat (first | apply Kd.R_alloc | apply Kd.R_drewN | apply Kd.R_drew)); exact HO163.out) (Kd.R_base ho48) hb); have n5_ := Aside0.mk (Kd.R_elder' (by (with_reducible repeat (first | apply Kd.R_alloc | apply Kd.R_drewN | apply Kd.R_drew)); exact HO167.out) (Kd.R_base ho48) hb); have n6_ := Aside0.mk (Kd.R_elder' (by (with_reducible repeat (first | apply Kd.R_alloc | apply Kd.R_drewN | apply Kd.R_drew)); exact HO171.out) (Kd.R_base ho48) hb); have n7_ := Aside0.mk (Kd.R_lower (Kd.R_new' (Kd.R_new' (Kd.R_new' ho48 (Kd.R_lt (by (with_reducible repeat (first | apply Kd.R_alloc | apply Kd.R_drewN | apply Kd.R_drew)); exact HO163.out))) (Kd.R_lt (by (with_reducible repeat (first | apply Kd.R_alloc | apply Kd.R_drewN | apply Kd.R_drew)); exact HO167.out))) (Kd.R_lt (by (with_reducible repeat (first | apply Kd.R_alloc | apply Kd.R_drewN | apply Kd.R_drew)); exact HO171.out))) (below_size (by repeat (first | (with_reducible first | exact HB.out | apply below_alloc | apply pw_below_drewN | apply below_drew1 | refine below_set ?_ GE147.out | refine below_set ?_ GE160.out) | exact HB.out)))); have n8_ := Aside0.mk (blk_below (g := gb147) (o := .cells #[.slice Ao22 y135.length co22, .slice Ao21 y144.length co21] 25 (0, 0)) (by (with_reducible repeat (first | refine blk_drewN ?_ _ | refine blk_drew ?_ | refine blk_alloc ?_ _)); exact BK147.out) hb); have n9_ := Aside0.mk (blk_below (g := gb160) (o := .cells #[.slice Ao36 y148.length co36, .slice Ao35 y157.length co35] 25 (0, 0)) (by (with_reducible repeat (first | refine blk_drewN ?_ _ | refine blk_drew ?_ | refine blk_alloc ?_ _)); exact BK160.out) hb); have n10_ := Aside0.mk (below_step (by repeat (first | (with_reducible first | exact HB.out | apply below_alloc | apply pw_below_drewN | apply below_drew1 | refine below_set ?_ GE147.out | refine below_set ?_ GE160.out) | exact HB.out)) hb); clear HO137; clear HO146; clear HO150; clear HO159; clear HO163; clear HO167; clear HO171; clear BK147; clear BK160; clear HB; have HO137 := n0_; have HO146 := n1_; have HO150 := n2_; have HO159 := n3_; have HO163 := n4_; have HO167 := n5_; have HO171 := n6_; have HO175 := n7_; have BK147 := n8_; have BK160 := n9_; have HB := n10_; clear n0_ n1_ n2_ n3_ n4_ n5_ n6_ n7_ n8_ n9_ n10_; clear hb ho48; obtain ⟨Ao49, co49, eo49⟩ := Kd.R_slice HO163.out; subst eo49; obtain ⟨Ao50, co50, eo50⟩ := Kd.R_slice HO175.out; subst eo50) | ((with_reducible refine gate_callee (f := 12) rfl ?_); refine goesL_ (some 42) rfl rfl Try.func12 (by kernel_rfl) rfl #[.slice Ao49 t161.length co49, .slice Ao50 y173.length co50] rfl (by (try simp only [List.map_toArray, List.map_cons, List.map_nil]); first | done | rfl | (simp only [List.length_drop, List.length_take]; rfl)) ?_; (with_reducible refine (tartanref06_Same.calls k _ _ t161 _ _ y173 true _ ?side1 ?side2 ?side3 ?side4 A4.out).mono ?_); (case side1 => repeat (first | exact (Kd.R_reads' HO163.out).2.2 | (with_reducible refine Kd.C_alloc ?_ _) | (with_reducible refine Kd.C_drewN ?_ _) | (with_reducible refine Kd.C_drew ?_))); (case side2 => exact (Kd.R_reads' HO163.out).2.1); (case side3 => repeat (first | exact (Kd.R_reads' HO175.out).2.2 | (with_reducible refine Kd.C_alloc ?_ _) | (with_reducible refine Kd.C_drewN ?_ _) | (with_reducible refine Kd.C_drew ?_))); (case side4 => exact (Kd.R_reads' HO175.out).2.1); rintro e w' ⟨rfl, ⟨nd, rfl⟩⟩; refine ⟨_, rfl, ?_⟩; obtain ⟨Ao51, co51, eo51⟩ := Kd.R_slice HO167.out; subst eo51; have hcz52_0 : w47.cell? ⟨gb147, 0, none⟩ = some (.slice Ao22 y135.length co22) := (blk_cell BK147.out 0).trans rfl; have hcz52_1 : w47.cell? ⟨gb147, 1, none⟩ = some (.slice Ao21 y144.length co21) := (blk_cell BK147.out 1).trans rfl; have hfz52_0 := blk_frozen BK147.out 0; have hfz52_1 := blk_frozen BK147.out 1; have hcz53_0 : w47.cell? ⟨gb160, 0, none⟩ = some (.slice Ao36 y148.length co36) := (blk_cell BK160.out 0).trans rfl; have hcz53_1 : w47.cell? ⟨gb160, 1, none⟩ = some (.slice Ao35 y157.length co35) := (blk_cell BK160.out 1).trans rfl; have hfz53_0 := blk_frozen BK160.out 0; have hfz53_1 := blk_frozen BK160.out 1) | (go_at_call 13; (with_reducible refine (cols_Named.calls k _ _ y135 _ _ y144 _ _ y148 _ _ y157 t177 _ ?side1 ?side2 ?side3 ?side4 ?side5 ?side6 ?side7 ?side8 A10.out).mono ?_); (case side1 => repeat (first | exact (Kd.R_reads' HO137.out).2.2 | (with_reducible refine Kd.C_alloc ?_ _) | (with_reducible refine Kd.C_drewN ?_ _) | (with_reducible refine Kd.C_drew ?_))); (case side2 => exact (Kd.R_reads' HO137.out).2.1); (case side3 => repeat (first | exact (Kd.N_reads' HO146.out).2.2 | (with_reducible refine Kd.C_alloc ?_ _) | (with_reducible refine Kd.C_drewN ?_ _) | (with_reducible refine Kd.C_drew ?_))); (case side4 => exact (Kd.N_reads' HO146.out).2.1); (case side5 => repeat (first | exact (Kd.R_reads' HO150.out).2.2 | (with_reducible refine Kd.C_alloc ?_ _) | (with_reducible refine Kd.C_drewN ?_ _) | (with_reducible refine Kd.C_drew ?_))); (case side6 => exact (Kd.R_reads' HO150.out).2.1); (case side7 => repeat (first | exact (Kd.N_reads' HO159.out).2.2 | (with_reducible refine Kd.C_alloc ?_ _) | (with_reducible refine Kd.C_drewN ?_ _) | (with_reducible refine Kd.C_drew ?_))); (case side8 => exact (Kd.N_reads' HO159.out).2.1); rintro e w54 ⟨v178, rfl, ho0, hb⟩; have n0_ := Aside0.mk (Kd.R_below (by (with_reducible repeat (first | apply Kd.R_alloc | apply Kd.R_drewN | apply Kd.R_drew)); exact HO137.out) hb); have n1_ := Aside0.mk (Kd.N_elder' (by (with_reducible repeat (first | apply Kd.N_alloc | apply Kd.N_drewN | apply Kd.N_drew)); exact HO146.out) (Kd.R_base ho0) hb); have n2_ := Aside0.mk (Kd.R_below (by (with_reducible repeat (first | apply Kd.R_alloc | apply Kd.R_drewN | apply Kd.R_drew)); exact HO150.out) hb); have n3_ := Aside0.mk (Kd.N_elder' (by (with_reducible repeat (first | apply Kd.N_alloc | apply Kd.N_drewN | apply Kd.N_drew)); exact HO159.out) (Kd.R_base ho0) hb); have n4_ := Aside0.mk (Kd.R_elder' (by (with_reducible repeat (first | apply Kd.R_alloc | apply Kd.R_drewN | apply Kd.R_drew)); exact HO163.out) (Kd.R_base ho0) hb); have n5_ := Aside0.mk (Kd.R_elder' (by (with_reducible repeat (first | apply Kd.R_alloc | apply Kd.R_drewN | apply Kd.R_drew)); exact HO167.out) (Kd.R_base ho0) hb); have n6_ := Aside0.mk (Kd.R_elder' (by (with_reducible repeat (first | apply Kd.R_alloc | apply Kd.R_drewN | apply Kd.R_drew)); exact HO171.out) (Kd.R_base ho0) hb); have n7_ := Aside0.mk (Kd.R_elder' (by (with_reducible repeat (first | apply Kd.R_alloc | apply Kd.R_drewN | apply Kd.R_drew)); exact HO175.out) (Kd.R_base ho0) hb); have n8_ := Aside0.mk (Kd.R_lower (Kd.R_new' (Kd.R_new' (Kd.R_new' (Kd.R_new' ho0 (Kd.R_lt (by (with_reducible repeat (first | apply Kd.R_alloc | apply Kd.R_drewN | apply Kd.R_drew)); exact HO163.out))) (Kd.R_lt (by (with_reducible repeat (first | apply Kd.R_alloc | apply Kd.R_drewN | apply Kd.R_drew)); exact HO167.out))) (Kd.R_lt (by (with_reducible repeat (first | apply Kd.R_alloc | apply Kd.R_drewN | apply Kd.R_drew)); exact HO171.out))) (Kd.R_lt (by (with_reducible repeat (first | apply Kd.R_alloc | apply Kd.R_drewN | apply Kd.R_drew)); exact HO175.out))) (below_size (by repeat (first | (with_reducible first | exact HB.out | apply below_alloc | apply pw_below_drewN | apply below_drew1 | refine below_set ?_ GE147.out | refine below_set ?_ GE160.out) | exact HB.out)))); have n9_ := Aside0.mk (blk_below (g := gb147) (o := .cells #[.slice Ao22 y135.length co22, .slice Ao21 y144.length co21] 25 (0, 0)) (by (with_reducible repeat (first | refine blk_drewN ?_ _ | refine blk_drew ?_ | refine blk_alloc ?_ _)); exact BK147.out) hb); have n10_ := Aside0.mk (blk_below (g := gb160) (o := .cells #[.slice Ao36 y148.length co36, .slice Ao35 y157.length co35] 25 (0, 0)) (by (with_reducible repeat (first | refine blk_drewN ?_ _ | refine blk_drew ?_ | refine blk_alloc ?_ _)); exact BK160.out) hb); have n11_ := Aside0.mk (below_step (by repeat (first | (with_reducible first | exact HB.out | apply below_alloc | apply pw_below_drewN | apply below_drew1 | refine below_set ?_ GE147.out | refine below_set ?_ GE160.out) | exact HB.out)) hb); clear HO137; clear HO146; clear HO150; clear HO159; clear HO163; clear HO167; clear HO171; clear HO175; clear BK147; clear BK160; clear HB; have HO137 := n0_; have HO146 := n1_; have HO150 := n2_; have HO159 := n3_; have HO163 := n4_; have HO167 := n5_; have HO171 := n6_; have HO175 := n7_; have HO179 := n8_; have BK147 := n9_; have BK160 := n10_; have HB := n11_; clear n0_ n1_ n2_ n3_ n4_ n5_ n6_ n7_ n8_ n9_ n10_ n11_; (try clear hb); (try clear hb2); (try clear hk); (try clear hi); (try clear ho0); obtain ⟨Ao55, co55, eo55⟩ := Kd.R_slice HO179.out; subst eo55))
            go_ret
            exact ⟨by first | rfl | (simp [errW_none, errW_some] <;> rfl) | (simp [*, errW_none, errW_some] <;> rfl), by repeat (first | (with_reducible first | exact HB.out | apply below_alloc | apply pw_below_drewN | apply below_drew1 | refine below_set ?_ GE147.out | refine below_set ?_ GE160.out) | exact HB.out)⟩
          · rw [if_neg c9] at H
            have c9b0 : (t172 == 8) = false := beq_eq_false_iff_ne.mpr c9
            have c9b1 : (t172 != 8) = true := bne_iff_ne.mpr c9
            exact absurd ((Option.some.inj H).trans hw_.out) (by decide)
        · rw [if_neg c8] at H
          have c8b0 : (t168 == 0) = false := beq_eq_false_iff_ne.mpr c8
          have c8b1 : (t168 != 0) = true := bne_iff_ne.mpr c8
          exact absurd ((Option.some.inj H).trans hw_.out) (by decide)
      · rw [if_neg c7] at H
        have c7b0 : ((t165.length : Int) == 1) = false := beq_eq_false_iff_ne.mpr c7
        have c7b1 : ((t165.length : Int) != 1) = true := bne_iff_ne.mpr c7
        exact absurd ((Option.some.inj H).trans hw_.out) (by decide)
    · rw [if_neg c6] at H
      have c6b0 : (t164 == 0) = false := beq_eq_false_iff_ne.mpr c6
      have c6b1 : (t164 != 0) = true := bne_iff_ne.mpr c6
      exact absurd ((Option.some.inj H).trans hw_.out) (by decide)
  · replace c5 := Bool.eq_false_iff.mpr c5
    subst c5
    have H1 : (some false) = some r := by rw [if_neg (show ¬ (false = true) by decide)] at H; exact H
    clear H
    have H := H1
    clear H1
    exact absurd ((Option.some.inj H).trans hw_.out) (by decide)
end Go.Proofs.Ytoefeboikkhdkaa.X
end
