/- Package lcs: the grid, its cells, and how it is filled; the length of the longest common row. -/
import Derived.Test.YtimchoebiadhmaaGBag
import Derived.Deep.RegionHeld3
import Derived.Deep.QuietTactic
import Derived.BigQuiet
namespace Go.Proofs.Ytimchoebiadhmaa.X
open Go.RowKit Go.WideMaps Go.Maps Go.Proofs.YtimchoebiadhmaaW.PrintWords Go.Proofs.Ytimchoebiadhmaa.GMap
set_option linter.unusedVariables false

/-- How long the longest common row of (x :: a) and b is, from those of a. -/
def lcsRow (x : ByteArray) (prev : List ByteArray → Nat) : List ByteArray → Nat
  | [] => 0
  | y :: b => if x = y then prev b + 1 else max (prev (y :: b)) (lcsRow x prev b)
def lcsL : List ByteArray → List ByteArray → Nat
  | [] => fun _ => 0
  | x :: a => lcsRow x (lcsL a)

theorem lcsRow_le (x : ByteArray) (prev : List ByteArray → Nat) (n : Nat) (hp : ∀ b, prev b ≤ n) : ∀ b, lcsRow x prev b ≤ n + 1
  | [] => Nat.zero_le _
  | y :: b => by
    have h1 := hp b
    have h2 := hp (y :: b)
    have h3 := lcsRow_le x prev n hp b
    unfold lcsRow
    split <;> omega
theorem lcsL_le : ∀ (a b : List ByteArray), lcsL a b ≤ a.length
  | [], _ => Nat.le_refl _
  | x :: a, b => lcsRow_le x _ _ (lcsL_le a) b
theorem lcsL_nil : ∀ a, lcsL a [] = 0
  | [] => rfl
  | _ :: _ => rfl
theorem lcsL_cons (x y : ByteArray) (a b : List ByteArray) : lcsL (x :: a) (y :: b) = if x = y then lcsL a b + 1 else max (lcsL a (y :: b)) (lcsL (x :: a) b) := rfl

theorem str_eq {x y : ByteArray} : x.toList = y.toList ↔ x = y := by
  rw [ByteArray.toList_eq, ByteArray.toList_eq]
  exact ⟨fun h => ByteArray.ext (Array.toList_inj.mp h), fun h => by rw [h]⟩

theorem infoI : (Try.prog.info? 3).map (fun i => (i.zero, i.size, i.bytes)) = some (some (.int .i64 0), 1, 8) := by kernel_rfl

theorem lcs_at_calls (G n c W i k : Nat) (w : World) (hn : n ≤ 10000000000) (hW : W ≤ 100000) (hi : i ≤ 100000) (hk : k ≤ 100000) (h : i * W + k < n) :
    Calls Try.prog 28 #[.agg #[.slice (some ⟨G, 0, none⟩) n c, .int .i64 W], .int .i64 i, .int .i64 k] w fun e w' => e = .returned (.pointer (some ⟨G, i * W + k, none⟩)) ∧ Below w.heap.size w w' := by
  go_enter Try.func28, Try.ntmps28
  go_wp2
  go_ret
  exact ⟨rfl, (Below.refl _ _).alloc (Nat.le_refl _) _⟩
theorem lcs_at_00 (G n c l i k : Nat) (w : World) (hn : n ≤ 10000000000) (hl : l + 1 ≤ 100000) (hi : i ≤ 100000) (hk : k ≤ 100000) (h : (i) * (l + 1) + (k) < n) :
    Calls Try.prog 28 #[.agg #[.slice (some ⟨G, 0, none⟩) n c, .int .i64 (↑l + 1)], .int .i64 i, .int .i64 k] w fun e w' => e = .returned (.pointer (some ⟨G, (i) * (l + 1) + (k), none⟩)) ∧ Below w.heap.size w w' :=
  lcs_at_calls G n c (l + 1) (i) (k) w hn hl hi hk h
theorem lcs_at_11 (G n c l i k : Nat) (w : World) (hn : n ≤ 10000000000) (hl : l + 1 ≤ 100000) (hi : i + 1 ≤ 100000) (hk : k + 1 ≤ 100000) (h : (i + 1) * (l + 1) + (k + 1) < n) :
    Calls Try.prog 28 #[.agg #[.slice (some ⟨G, 0, none⟩) n c, .int .i64 (↑l + 1)], .int .i64 (↑i + 1), .int .i64 (↑k + 1)] w fun e w' => e = .returned (.pointer (some ⟨G, (i + 1) * (l + 1) + (k + 1), none⟩)) ∧ Below w.heap.size w w' :=
  lcs_at_calls G n c (l + 1) (i + 1) (k + 1) w hn hl hi hk h
theorem lcs_at_10 (G n c l i k : Nat) (w : World) (hn : n ≤ 10000000000) (hl : l + 1 ≤ 100000) (hi : i + 1 ≤ 100000) (hk : k ≤ 100000) (h : (i + 1) * (l + 1) + (k) < n) :
    Calls Try.prog 28 #[.agg #[.slice (some ⟨G, 0, none⟩) n c, .int .i64 (↑l + 1)], .int .i64 (↑i + 1), .int .i64 k] w fun e w' => e = .returned (.pointer (some ⟨G, (i + 1) * (l + 1) + (k), none⟩)) ∧ Below w.heap.size w w' :=
  lcs_at_calls G n c (l + 1) (i + 1) (k) w hn hl hi hk h
theorem lcs_at_01 (G n c l i k : Nat) (w : World) (hn : n ≤ 10000000000) (hl : l + 1 ≤ 100000) (hi : i ≤ 100000) (hk : k + 1 ≤ 100000) (h : (i) * (l + 1) + (k + 1) < n) :
    Calls Try.prog 28 #[.agg #[.slice (some ⟨G, 0, none⟩) n c, .int .i64 (↑l + 1)], .int .i64 i, .int .i64 (↑k + 1)] w fun e w' => e = .returned (.pointer (some ⟨G, (i) * (l + 1) + (k + 1), none⟩)) ∧ Below w.heap.size w w' :=
  lcs_at_calls G n c (l + 1) (i) (k + 1) w hn hl hi hk h

theorem lcs_at_z (G n c l : Nat) (w : World) (hn : n ≤ 10000000000) (hl : l + 1 ≤ 100000) (h : 0 < n) :
    Calls Try.prog 28 #[.agg #[.slice (some ⟨G, 0, none⟩) n c, .int .i64 (↑l + 1)], .int .i64 0, .int .i64 0] w fun e w' => e = .returned (.pointer (some ⟨G, 0, none⟩)) ∧ Below w.heap.size w w' := by
  have := lcs_at_calls G n c (l + 1) 0 0 w hn hl (by omega) (by omega) (by omega)
  simpa using this

/-- The grid's cells: rows from i on are filled, and of row i - 1 the cells from k on. -/
def Grid (a b : List ByteArray) (xs : List Int) (i k : Nat) : Prop :=
  xs.length = (a.length + 1) * (b.length + 1) ∧ (∀ p q, i ≤ p → p ≤ a.length → q ≤ b.length → xs.getD (p * (b.length + 1) + q) 0 = (lcsL (a.drop p) (b.drop q) : Nat)) ∧
    (∀ q, 0 < i → k ≤ q → q ≤ b.length → xs.getD ((i - 1) * (b.length + 1) + q) 0 = (lcsL (a.drop (i - 1)) (b.drop q) : Nat)) ∧ ∀ p, p ≤ a.length → xs.getD (p * (b.length + 1) + b.length) 0 = 0

theorem idx_inj {W p q i k : Nat} (hq : q < W) (hk : k < W) (h : p * W + q = i * W + k) : p = i ∧ q = k := by
  have h1 : (p * W + q) / W = p := by rw [Nat.mul_comm, Nat.mul_add_div (by omega), Nat.div_eq_of_lt hq]; rfl
  have h2 : (i * W + k) / W = i := by rw [Nat.mul_comm, Nat.mul_add_div (by omega), Nat.div_eq_of_lt hk]; rfl
  have h3 : p = i := by rw [← h1, ← h2, h]
  subst h3
  exact ⟨rfl, by omega⟩
theorem idx_lt {la W i k : Nat} (hi : i ≤ la) (hk : k < W) : i * W + k < (la + 1) * W := by
  have := Nat.mul_le_mul_right W hi
  rw [Nat.add_mul]; omega
theorem getD_set (xs : List Int) (j : Nat) (v : Int) (q : Nat) (hj : j < xs.length) : (xs.set j v).getD q 0 = if q = j then v else xs.getD q 0 := by
  rw [List.getD_eq_getElem?_getD, List.getElem?_set, List.getD_eq_getElem?_getD]
  by_cases h : j = q
  · subst h; simp [hj]
  · rw [if_neg h, if_neg (fun e => h e.symm)]
theorem Grid.start (a b : List ByteArray) : Grid a b (List.replicate ((a.length + 1) * (b.length + 1)) 0) a.length (b.length + 1) := by
  have hz : ∀ j, (List.replicate ((a.length + 1) * (b.length + 1)) (0 : Int)).getD j 0 = 0 := by
    intro j; rw [List.getD_eq_getElem?_getD, List.getElem?_replicate]; split <;> rfl
  refine ⟨by simp, fun p q hp hp' hq => ?_, fun q _ hk hq => by omega, fun p hp => hz _⟩
  obtain rfl : p = a.length := by omega
  rw [hz, List.drop_length]; rfl
theorem Grid.inner {a b : List ByteArray} {xs : List Int} {i : Nat} (h : Grid a b xs (i + 1) (b.length + 1)) (hi : i < a.length) : Grid a b xs (i + 1) b.length := by
  obtain ⟨h1, h2, h3, h4⟩ := h
  refine ⟨h1, h2, fun q _ hk hq => ?_, h4⟩
  obtain rfl : q = b.length := by omega
  rw [Nat.add_sub_cancel, h4 i (by omega), List.drop_length, lcsL_nil]; rfl
theorem Grid.outer {a b : List ByteArray} {xs : List Int} {i : Nat} (h : Grid a b xs (i + 1) 0) : Grid a b xs i (b.length + 1) := by
  obtain ⟨h1, h2, h3, h4⟩ := h
  refine ⟨h1, fun p q hp hp' hq => ?_, fun q _ hk hq => by omega, h4⟩
  by_cases e : p = i
  · subst e; exact h3 q (by omega) (by omega) hq
  · exact h2 p q (by omega) hp' hq
theorem Grid.at11 {a b : List ByteArray} {xs : List Int} {i k : Nat} (h : Grid a b xs (i + 1) (k + 1)) (hi : i < a.length) (hk : k < b.length) : xs.getD ((i + 1) * (b.length + 1) + (k + 1)) 0 = (lcsL (a.drop (i + 1)) (b.drop (k + 1)) : Nat) := h.2.1 _ _ (by omega) (by omega) (by omega)
theorem Grid.at10 {a b : List ByteArray} {xs : List Int} {i k : Nat} (h : Grid a b xs (i + 1) (k + 1)) (hi : i < a.length) (hk : k < b.length) : xs.getD ((i + 1) * (b.length + 1) + k) 0 = (lcsL (a.drop (i + 1)) (b.drop k) : Nat) := h.2.1 _ _ (by omega) (by omega) (by omega)
theorem Grid.at01 {a b : List ByteArray} {xs : List Int} {i k : Nat} (h : Grid a b xs (i + 1) (k + 1)) (hi : i < a.length) (hk : k < b.length) : xs.getD (i * (b.length + 1) + (k + 1)) 0 = (lcsL (a.drop i) (b.drop (k + 1)) : Nat) := h.2.2.1 _ (by omega) (by omega) (by omega)
theorem Grid.step {a b : List ByteArray} {xs : List Int} {i k : Nat} (h : Grid a b xs (i + 1) (k + 1)) (hi : i < a.length) (hk : k < b.length) {v : Int} (hv : v = (lcsL (a.drop i) (b.drop k) : Nat)) :
    Grid a b (xs.set (i * (b.length + 1) + k) v) (i + 1) k := by
  obtain ⟨h1, h2, h3, h4⟩ := h
  have hl : i * (b.length + 1) + k < xs.length := by rw [h1]; exact idx_lt (by omega) (by omega)
  refine ⟨by rw [List.length_set]; exact h1, fun p q hp hp' hq => ?_, fun q _ hk' hq => ?_, fun p hp => ?_⟩
  · rw [getD_set _ _ _ _ hl, if_neg (fun e => by have := (idx_inj (by omega) (by omega) e).1; omega)]
    exact h2 p q hp hp' hq
  · rw [Nat.add_sub_cancel, getD_set _ _ _ _ hl]
    split
    · rename_i e
      obtain ⟨_, rfl⟩ := idx_inj (by omega) (by omega) e
      exact hv
    · rename_i e
      have hne : q ≠ k := fun e' => e (by rw [e'])
      exact h3 q (by omega) (by omega) hq
  · rw [getD_set _ _ _ _ hl, if_neg (fun e => by have := (idx_inj (by omega) (by omega) e).2; omega)]
    exact h4 p hp
theorem Grid.yes {a b : List ByteArray} {xs : List Int} {i k : Nat} (h : Grid a b xs (i + 1) (k + 1)) (hi : i < a.length) (hk : k < b.length) (e : rdOf ByteArray.empty a i = rdOf ByteArray.empty b k) :
    Grid a b (xs.set (i * (b.length + 1) + k) (xs.getD ((i + 1) * (b.length + 1) + (k + 1)) 0 + 1)) (i + 1) k := by
  refine h.step hi hk ?_
  rw [h.at11 hi hk, drop_rd hi, drop_rd hk, lcsL_cons, if_pos e]; rfl
theorem Grid.no {a b : List ByteArray} {xs : List Int} {i k : Nat} (h : Grid a b xs (i + 1) (k + 1)) (hi : i < a.length) (hk : k < b.length) (e : ¬ rdOf ByteArray.empty a i = rdOf ByteArray.empty b k) {m : Int} (hm : m = max (xs.getD ((i + 1) * (b.length + 1) + k) 0) (xs.getD (i * (b.length + 1) + (k + 1)) 0)) :
    Grid a b (xs.set (i * (b.length + 1) + k) m) (i + 1) k := by
  refine h.step hi hk ?_
  rw [hm, h.at10 hi hk, h.at01 hi hk, drop_rd hi, drop_rd hk, lcsL_cons, if_neg e, ← drop_rd hi, ← drop_rd hk]; omega

theorem own_made_cells (m : Nat) : (madeCells #[Value.int .i64 0] m) = (nums .i64 (List.replicate m 0)).toArray := by
  apply Array.ext'
  apply List.ext_getElem
  · simp [nums, madeCells]
  · intro i h1 h2
    simp [nums, madeCells, Nat.mod_one]
/-- A block of whole numbers. -/
theorem numCell {w : World} {G t : Nat} {xs : List Int} (h : w.heap[G]? = some (.cells (nums .i64 xs).toArray t (0, 0))) {j : Nat} (hj : j < xs.length) : w.cell? ⟨G, j, none⟩ = some (.int .i64 (xs.getD j 0)) := by
  simp [World.cell?, h, nums, List.getElem?_eq_getElem hj, List.getD_eq_getElem?_getD]
theorem numFree {w : World} {G t : Nat} {cs : Array Value} (h : w.heap[G]? = some (.cells cs t (0, 0))) {j : Nat} : w.frozen? ⟨G, j, none⟩ = false := by
  simp [World.frozen?, h]
theorem numSet {w : World} {G t : Nat} {xs : List Int} (h : w.heap[G]? = some (.cells (nums .i64 xs).toArray t (0, 0))) (j : Nat) (v : Int) :
    (w.setCell ⟨G, j, none⟩ (.int .i64 v)).heap[G]? = some (.cells (nums .i64 (xs.set j v)).toArray t (0, 0)) := by
  simp [World.setCell, Array.getElem?_modify, h, nums, List.map_set]

/-- What fill has laid: the grid's cells, the grid, its result's variable. -/
structure FillS (w : World) (a b : List ByteArray) (xs : List Int) (W : World) : Prop where
  G : W.heap[w.heap.size + 1]? = some (.cells (nums .i64 xs).toArray 3 (0, 0))
  H : W.heap[w.heap.size + 1 + 1]? = some (.cells #[.slice (some ⟨w.heap.size + 1, 0, none⟩) ((a.length + 1) * (b.length + 1)) ((a.length + 1) * (b.length + 1)), .int .i64 (↑b.length + 1)] 46 (0, 0))
  D : W.heap[w.heap.size]? = some (.cells #[.slice none 0 0, .int .i64 0] 46 (0, 0))
  B : Below w.heap.size w W
section
variable {w W W' : World} {a b : List ByteArray} {xs : List Int}
theorem FillS.below (h : FillS w a b xs W) (hb : Below W.heap.size W W') : FillS w a b xs W' :=
  ⟨(hb.block _ (lt_of_block h.G)).trans h.G, (hb.block _ (lt_of_block h.H)).trans h.H, (hb.block _ (lt_of_block h.D)).trans h.D, h.B.trans (hb.mono h.B.size)⟩
theorem FillS.drew (h : FillS w a b xs W) (n : Nat) : FillS w a b xs (W.drewN n).drew := h.below (below_drew (pw_below_drewN (Below.refl _ _) n))
theorem FillS.set (h : FillS w a b xs W) (j : Nat) (v : Int) : FillS w a b (xs.set j v) (W.setCell ⟨w.heap.size + 1, j, none⟩ (.int .i64 v)) :=
  ⟨numSet h.G j v, by rw [Below.heap_setCell _ _ _ _ (by show _ ≠ w.heap.size + 1; omega)]; exact h.H, by rw [Below.heap_setCell _ _ _ _ (by show _ ≠ w.heap.size + 1; omega)]; exact h.D, h.B.setCell (by show w.heap.size ≤ w.heap.size + 1; omega) _⟩
theorem FillS.h0 (h : FillS w a b xs W) : W.cell? ⟨w.heap.size + 1 + 1, 0, none⟩ = some (.slice (some ⟨w.heap.size + 1, 0, none⟩) ((a.length + 1) * (b.length + 1)) ((a.length + 1) * (b.length + 1))) := by simp [World.cell?, h.H]
theorem FillS.h1 (h : FillS w a b xs W) : W.cell? ⟨w.heap.size + 1 + 1, 1, none⟩ = some (.int .i64 (↑b.length + 1)) := by simp [World.cell?, h.H]
end

set_option maxRecDepth 100000 in
set_option maxHeartbeats 1600000 in
theorem lcs_fill_calls (A0 : Option Addr) (c0 : Nat) (a : List ByteArray) (A1 : Option Addr) (c1 : Nat) (b : List ByteArray) (w : World) (hr0 : Kd.C Kd.string w A0 a.length a) (hr1 : Kd.C Kd.string w A1 b.length b) (hla : a.length ≤ 10000) (hlb : b.length ≤ 10000) :
    Calls Try.prog 27 #[.slice A0 a.length c0, .slice A1 b.length c1] w fun e w' => ∃ G xs, e = .returned (.agg #[.slice (some ⟨G, 0, none⟩) ((a.length + 1) * (b.length + 1)) ((a.length + 1) * (b.length + 1)), .int .i64 (b.length + 1)]) ∧
      w.heap.size ≤ G ∧ w'.heap[G]? = some (.cells (nums .i64 xs).toArray 3 (0, 0)) ∧ Grid a b xs 0 0 ∧ Below w.heap.size w w' := by
  have HR0 := Aside0.mk hr0
  have HR1 := Aside0.mk hr1
  have hmul : (a.length + 1) * (b.length + 1) ≤ 10001 * 10001 := Nat.mul_le_mul (by omega) (by omega)
  have hmk := print_make (P := Try.prog) 44 3 .i64 8 Try.underlying44 infoI (by omega) ((a.length + 1) * (b.length + 1)) (by omega)
  have hmk2 : ∀ W : World, (Instr.makeSlice 44 (.int .i64 (wrap64 ((↑a.length + 1) * (↑b.length + 1)))) (.int .i64 (wrap64 ((↑a.length + 1) * (↑b.length + 1))))).run Try.prog W = .ok (.slice (some ⟨W.heap.size, 0, none⟩) ((a.length + 1) * (b.length + 1)) ((a.length + 1) * (b.length + 1))) (W.alloc (.cells (madeCells #[.int .i64 0] ((a.length + 1) * (b.length + 1))) 3)) := by
    intro W
    have h := hmk W
    rw [show (((a.length + 1) * (b.length + 1) : Nat) : Int) = wrap64 ((↑a.length + 1) * (↑b.length + 1)) from by
      rw [show ((a.length : Int) + 1) * ((b.length : Int) + 1) = (((a.length + 1) * (b.length + 1) : Nat) : Int) from by push_cast; rfl]
      unfold wrap64; omega] at h
    exact h
  clear hr0 hr1 hmk
  go_enter Try.func27, Try.ntmps27
  go_wp2
  go_loopw [6, 7] (fun vi vk wr => ∃ (i : Nat) (xs : List Int), i ≤ a.length ∧ vi = .int .i64 (i - 1) ∧ Aside0 (Grid a b xs i (b.length + 1)) ∧ FillS w a b xs wr)
    (fun vi _ _ => (intOf vi + 1).toNat)
  case atStart =>
    refine ⟨a.length, List.replicate ((a.length + 1) * (b.length + 1)) 0, Nat.le_refl _, rfl, ⟨Grid.start a b⟩, ?_, ?_, ?_, ?_⟩
    · rw [ha, if_neg (by simp), ha, if_pos (by simp)]; rw [own_made_cells]
    · rw [ha, if_pos (by simp)]
    · rw [ha, if_neg (by simp; omega), ha, if_neg (by simp), ha, if_pos rfl]
    · exact (((Below.refl _ _).alloc (Nat.le_refl _) _).alloc (by simp) _).alloc (by simp; omega) _
  case round =>
    obtain ⟨i1, xs, hi, rfl, HG, HF⟩ := hrel
    cases i1 with
    | zero =>
      have hH0 := HF.h0
      have hH1 := HF.h1
      have hr0 : wr.cell? ⟨w.heap.size, 0, none⟩ = some (.slice none 0 0) := by simp [World.cell?, HF.D]
      have hr1 : wr.cell? ⟨w.heap.size, 1, none⟩ = some (.int .i64 0) := by simp [World.cell?, HF.D]
      have hf0 : wr.frozen? ⟨w.heap.size, 0, none⟩ = false := by simp [World.frozen?, HF.D]
      have hf1 : wr.frozen? ⟨w.heap.size, 1, none⟩ = false := by simp [World.frozen?, HF.D]
      go_wp2
      refine bodyPost_ret (v := .agg #[.slice (some ⟨w.heap.size + 1, 0, none⟩) ((a.length + 1) * (b.length + 1)) ((a.length + 1) * (b.length + 1)), .int .i64 (↑b.length + 1)]) (by simp [results, Try.results27, go_sem, hr0, hr1]) rfl ?_
      refine ⟨_, xs, rfl, by omega, ?_, ?_, ?_⟩
      · rw [Below.heap_setCell _ _ _ _ (by show _ ≠ w.heap.size; omega), Below.heap_setCell _ _ _ _ (by show _ ≠ w.heap.size; omega)]; exact HF.G
      · obtain ⟨g1, g2, g3, g4⟩ := HG.out
        exact ⟨g1, g2, fun q h0 => by omega, g4⟩
      · exact (HF.B.setCell (by simp) _).setCell (by simp) _
    | succ i =>
      rw [show ((i + 1 : Nat) : Int) - 1 = i from by omega]
      go_wp2
      go_loopw [7] (fun vk wr => ∃ (k : Nat) (xs : List Int), k ≤ b.length ∧ vk = .int .i64 (k - 1) ∧ Aside0 (Grid a b xs (i + 1) k) ∧ FillS w a b xs wr)
        (fun vk _ => (intOf vk + 1).toNat)
      case atStart => exact ⟨b.length, xs, Nat.le_refl _, rfl, ⟨HG.out.inner (by omega)⟩, HF⟩
      case round =>
        clear HF HG xs
        obtain ⟨k1, xs, hk, rfl, HG, HF⟩ := hrel
        cases k1 with
        | zero =>
          go_wp2
          go_roundw
          case rel => exact ⟨i, xs, by omega, rfl, ⟨HG.out.outer⟩, HF⟩
          case measure => simp [intOf]
        | succ k =>
          rw [show ((k + 1 : Nat) : Int) - 1 = k from by omega]
          have HA := Aside0.mk (Kd.C_below HR0.out HF.B)
          have HB := Aside0.mk (Kd.C_below HR1.out HF.B)
          obtain ⟨ada, eA, hxa⟩ := strAt HA.out (show i < a.length by omega)
          obtain ⟨adb, eB, hxb⟩ := strAt HB.out (show k < b.length by omega)
          cases eA
          cases eB
          have hi1 : (i : Int) < (a.length : Int) := by omega
          have hk1 : (k : Int) < (b.length : Int) := by omega
          have hxl := HG.out.1
          have l11 : (i + 1) * (b.length + 1) + (k + 1) < (a.length + 1) * (b.length + 1) := idx_lt (by omega) (by omega)
          have l10 : (i + 1) * (b.length + 1) + k < (a.length + 1) * (b.length + 1) := idx_lt (by omega) (by omega)
          have l01 : i * (b.length + 1) + (k + 1) < (a.length + 1) * (b.length + 1) := idx_lt (by omega) (by omega)
          have l00 : i * (b.length + 1) + k < (a.length + 1) * (b.length + 1) := idx_lt (by omega) (by omega)
          have bN : (a.length + 1) * (b.length + 1) ≤ 10000000000 := by omega
          have bb : b.length + 1 ≤ 100000 := by omega
          have bi : i ≤ 100000 := by omega
          have bi1 : i + 1 ≤ 100000 := by omega
          have bk : k ≤ 100000 := by omega
          have bk1 : k + 1 ≤ 100000 := by omega
          have l00x : i * (b.length + 1) + k < xs.length := by omega
          have l01x : i * (b.length + 1) + (k + 1) < xs.length := by omega
          have l10x : (i + 1) * (b.length + 1) + k < xs.length := by omega
          have l11x : (i + 1) * (b.length + 1) + (k + 1) < xs.length := by omega
          by_cases e : rdOf ByteArray.empty a (i : Int) = rdOf ByteArray.empty b (k : Int)
          · have HG2 := Aside0.mk (HG.out.yes (by omega) (by omega) e)
            have hv : xs.getD ((i + 1) * (b.length + 1) + (k + 1)) 0 ≤ 10000 ∧ 0 ≤ xs.getD ((i + 1) * (b.length + 1) + (k + 1)) 0 := by
              rw [HG.out.at11 (by omega) (by omega)]; have := lcsL_le (a.drop (i + 1)) (b.drop (k + 1)); rw [List.length_drop] at this; omega
            have hne : (i + 1) * (b.length + 1) + (k + 1) ≠ i * (b.length + 1) + k := fun e' => by have := (idx_inj (W := b.length + 1) (by omega) (by omega) e').1; omega
            have hS : ∀ W, FillS w a b xs W → W.cell? ⟨w.heap.size + 1 + 1, 0, none⟩ = some (.slice (some ⟨w.heap.size + 1, 0, none⟩) ((a.length + 1) * (b.length + 1)) ((a.length + 1) * (b.length + 1))) ∧ W.cell? ⟨w.heap.size + 1 + 1, 1, none⟩ = some (.int .i64 (↑b.length + 1)) ∧
                W.cell? ⟨w.heap.size + 1, (i + 1) * (b.length + 1) + (k + 1), none⟩ = some (.int .i64 (xs.getD ((i + 1) * (b.length + 1) + (k + 1)) 0)) :=
              fun W h => ⟨h.h0, h.h1, numCell h.G l11x⟩
            have hT : ∀ W, FillS w a b xs W → (W.setCell ⟨w.heap.size + 1, i * (b.length + 1) + k, none⟩ (.int .i64 (xs.getD ((i + 1) * (b.length + 1) + (k + 1)) 0 + 1))).cell? ⟨w.heap.size + 1 + 1, 0, none⟩ = some (.slice (some ⟨w.heap.size + 1, 0, none⟩) ((a.length + 1) * (b.length + 1)) ((a.length + 1) * (b.length + 1))) ∧
                (W.setCell ⟨w.heap.size + 1, i * (b.length + 1) + k, none⟩ (.int .i64 (xs.getD ((i + 1) * (b.length + 1) + (k + 1)) 0 + 1))).cell? ⟨w.heap.size + 1 + 1, 1, none⟩ = some (.int .i64 (↑b.length + 1)) ∧
                (W.setCell ⟨w.heap.size + 1, i * (b.length + 1) + k, none⟩ (.int .i64 (xs.getD ((i + 1) * (b.length + 1) + (k + 1)) 0 + 1))).cell? ⟨w.heap.size + 1, (i + 1) * (b.length + 1) + (k + 1), none⟩ = some (.int .i64 (xs.getD ((i + 1) * (b.length + 1) + (k + 1)) 0)) :=
              fun W h => ⟨(h.set _ _).h0, (h.set _ _).h1, by rw [numCell (h.set _ _).G (by rw [List.length_set]; exact l11x), getD_set _ _ _ _ l00x, if_neg hne]⟩
            have HS := Aside0.mk hS
            have HT := Aside0.mk hT
            clear hS hT hne
            have HX : Aside0 (∀ W, FillS w a b xs W → W.cell? ⟨w.heap.size + 1, i * (b.length + 1) + k, none⟩ = some (.int .i64 (xs.getD (i * (b.length + 1) + k) 0)) ∧ W.frozen? ⟨w.heap.size + 1, i * (b.length + 1) + k, none⟩ = false) := ⟨fun W h => ⟨numCell h.G l00x, numFree h.G⟩⟩
            generalize rdOf ByteArray.empty a (i : Int) = x at *
            generalize rdOf ByteArray.empty b (k : Int) = y at *
            have e1 : (x.toList == y.toList) = true := by rw [e]; simp
            generalize xs.getD ((i + 1) * (b.length + 1) + (k + 1)) 0 = v at *
            clear e
            go_wp2
            go_quiet (fail)
            go_wp2
            have wi : IntKind.i64.wrap (↑i + 1) = ↑i + 1 := IntWalk.i64_in _ (by omega)
            have wk : IntKind.i64.wrap (↑k + 1) = ↑k + 1 := IntWalk.i64_in _ (by omega)
            have wv : IntKind.i64.wrap (v + 1) = v + 1 := IntWalk.i64_in _ (by omega)
            go_region_held3 (fun W => W.cell? ⟨w.heap.size + 1 + 1, 0, none⟩ = some (.slice (some ⟨w.heap.size + 1, 0, none⟩) ((a.length + 1) * (b.length + 1)) ((a.length + 1) * (b.length + 1))) ∧ W.cell? ⟨w.heap.size + 1 + 1, 1, none⟩ = some (.int .i64 (↑b.length + 1)) ∧
                W.cell? ⟨w.heap.size + 1, (i + 1) * (b.length + 1) + (k + 1), none⟩ = some (.int .i64 v))
              (first | exact HS.out _ (HF.drew _) | exact HS.out _ HFa | exact HS.out _ HFb | exact HT.out _ HFa | exact HT.out _ HFb)
              (first
                | (go_at_call 28; (with_reducible refine (lcs_at_11 _ _ _ b.length i k _ bN bb bi1 bk1 l11).mono ?_); rintro e w2 ⟨rfl, hbc⟩; (have HFa : FillS w a b xs w2 := by first | exact FillS.below (HF.drew _) hbc | exact FillS.below HFb hbc); obtain ⟨hc00, hf00⟩ := HX.out _ HFa)
                | (go_at_call 28; (with_reducible refine (lcs_at_00 _ _ _ b.length i k _ bN bb bi bk l00).mono ?_); rintro e w2 ⟨rfl, hbc⟩; (have HFb : FillS w a b xs w2 := by first | exact FillS.below (HF.drew _) hbc | exact FillS.below HFa hbc); obtain ⟨hc00, hf00⟩ := HX.out _ HFb))
            have HF3 := Aside0.mk (FillS.set (show FillS w a b xs w2 from by first | exact HFa | exact HFb) (i * (b.length + 1) + k) (v + 1))
            clear HFa HFb HF wi wk wv hc00 hf00
            go_wp2
            go_roundw
            case rel => exact ⟨k, _, by omega, by go_num, HG2, HF3.out⟩
            case measure => simp [intOf]
          · have HG2 := Aside0.mk (HG.out.no (by omega) (by omega) e rfl)
            have hv1 : xs.getD ((i + 1) * (b.length + 1) + k) 0 ≤ 10000 ∧ 0 ≤ xs.getD ((i + 1) * (b.length + 1) + k) 0 := by
              rw [HG.out.at10 (by omega) (by omega)]; have := lcsL_le (a.drop (i + 1)) (b.drop k); rw [List.length_drop] at this; omega
            have hv2 : xs.getD (i * (b.length + 1) + (k + 1)) 0 ≤ 10000 ∧ 0 ≤ xs.getD (i * (b.length + 1) + (k + 1)) 0 := by
              rw [HG.out.at01 (by omega) (by omega)]; have := lcsL_le (a.drop i) (b.drop (k + 1)); rw [List.length_drop] at this; omega
            have hne1 : (i + 1) * (b.length + 1) + k ≠ i * (b.length + 1) + k := fun e' => by have := (idx_inj (W := b.length + 1) (by omega) (by omega) e').1; omega
            have hne2 : i * (b.length + 1) + (k + 1) ≠ i * (b.length + 1) + k := fun e' => by have := (idx_inj (W := b.length + 1) (by omega) (by omega) e').2; omega
            generalize hm : max (xs.getD ((i + 1) * (b.length + 1) + k) 0) (xs.getD (i * (b.length + 1) + (k + 1)) 0) = m at *
            have HM := Aside0.mk hm
            have hS : ∀ W, FillS w a b xs W → W.cell? ⟨w.heap.size + 1 + 1, 0, none⟩ = some (.slice (some ⟨w.heap.size + 1, 0, none⟩) ((a.length + 1) * (b.length + 1)) ((a.length + 1) * (b.length + 1))) ∧ W.cell? ⟨w.heap.size + 1 + 1, 1, none⟩ = some (.int .i64 (↑b.length + 1)) ∧
                W.cell? ⟨w.heap.size + 1, (i + 1) * (b.length + 1) + k, none⟩ = some (.int .i64 (xs.getD ((i + 1) * (b.length + 1) + k) 0)) ∧ W.cell? ⟨w.heap.size + 1, i * (b.length + 1) + (k + 1), none⟩ = some (.int .i64 (xs.getD (i * (b.length + 1) + (k + 1)) 0)) :=
              fun W h => ⟨h.h0, h.h1, numCell h.G l10x, numCell h.G l01x⟩
            have hT : ∀ W, FillS w a b xs W → (W.setCell ⟨w.heap.size + 1, i * (b.length + 1) + k, none⟩ (.int .i64 m)).cell? ⟨w.heap.size + 1 + 1, 0, none⟩ = some (.slice (some ⟨w.heap.size + 1, 0, none⟩) ((a.length + 1) * (b.length + 1)) ((a.length + 1) * (b.length + 1))) ∧
                (W.setCell ⟨w.heap.size + 1, i * (b.length + 1) + k, none⟩ (.int .i64 m)).cell? ⟨w.heap.size + 1 + 1, 1, none⟩ = some (.int .i64 (↑b.length + 1)) ∧
                (W.setCell ⟨w.heap.size + 1, i * (b.length + 1) + k, none⟩ (.int .i64 m)).cell? ⟨w.heap.size + 1, (i + 1) * (b.length + 1) + k, none⟩ = some (.int .i64 (xs.getD ((i + 1) * (b.length + 1) + k) 0)) ∧
                (W.setCell ⟨w.heap.size + 1, i * (b.length + 1) + k, none⟩ (.int .i64 m)).cell? ⟨w.heap.size + 1, i * (b.length + 1) + (k + 1), none⟩ = some (.int .i64 (xs.getD (i * (b.length + 1) + (k + 1)) 0)) :=
              fun W h => ⟨(h.set _ _).h0, (h.set _ _).h1, by rw [numCell (h.set _ _).G (by rw [List.length_set]; exact l10x), getD_set _ _ _ _ l00x, if_neg hne1], by rw [numCell (h.set _ _).G (by rw [List.length_set]; exact l01x), getD_set _ _ _ _ l00x, if_neg hne2]⟩
            have HS := Aside0.mk hS
            have HT := Aside0.mk hT
            clear hS hT hne1 hne2
            have HX : Aside0 (∀ W, FillS w a b xs W → W.cell? ⟨w.heap.size + 1, i * (b.length + 1) + k, none⟩ = some (.int .i64 (xs.getD (i * (b.length + 1) + k) 0)) ∧ W.frozen? ⟨w.heap.size + 1, i * (b.length + 1) + k, none⟩ = false) := ⟨fun W h => ⟨numCell h.G l00x, numFree h.G⟩⟩
            generalize rdOf ByteArray.empty a (i : Int) = x at *
            generalize rdOf ByteArray.empty b (k : Int) = y at *
            have e1 : (x.toList == y.toList) = false := by rw [beq_eq_false_iff_ne]; exact fun h => e (str_eq.1 h)
            generalize xs.getD ((i + 1) * (b.length + 1) + k) 0 = v1 at *
            generalize xs.getD (i * (b.length + 1) + (k + 1)) 0 = v2 at *
            clear e hm
            go_wp2
            go_quiet (fail)
            go_wp2
            have wi : IntKind.i64.wrap (↑i + 1) = ↑i + 1 := IntWalk.i64_in _ (by omega)
            have wk : IntKind.i64.wrap (↑k + 1) = ↑k + 1 := IntWalk.i64_in _ (by omega)
            have hmx : ∀ W : World, (Builtin.max_ #[3, 3] 3 #[.int .i64 v1, .int .i64 v2]).run Try.prog W = .ok (.int .i64 m) W := fun W => by
              rw [← HM.out, Go.Proofs.YtimchoebiadhmaaW.PrintMore.max_two, Go.Proofs.YtimchoebiadhmaaW.PrintMore.max2_int]
              show Result.ok (Value.int .i64 (if v1 < v2 then v2 else v1)) W = _
              rw [show (if v1 < v2 then v2 else v1) = max v1 v2 from by split <;> omega]
            go_region_held3 (fun W => W.cell? ⟨w.heap.size + 1 + 1, 0, none⟩ = some (.slice (some ⟨w.heap.size + 1, 0, none⟩) ((a.length + 1) * (b.length + 1)) ((a.length + 1) * (b.length + 1))) ∧ W.cell? ⟨w.heap.size + 1 + 1, 1, none⟩ = some (.int .i64 (↑b.length + 1)) ∧
                W.cell? ⟨w.heap.size + 1, (i + 1) * (b.length + 1) + k, none⟩ = some (.int .i64 v1) ∧ W.cell? ⟨w.heap.size + 1, i * (b.length + 1) + (k + 1), none⟩ = some (.int .i64 v2))
              (first | exact HS.out _ (HF.drew _) | exact HS.out _ HFa | exact HS.out _ HFb | exact HS.out _ HFc | exact HT.out _ HFa | exact HT.out _ HFb | exact HT.out _ HFc)
              (first
                | (go_at_call 28; (with_reducible refine (lcs_at_10 _ _ _ b.length i k _ bN bb bi1 bk l10).mono ?_); rintro e w2 ⟨rfl, hbc⟩; (have HFa : FillS w a b xs w2 := by first | exact FillS.below (HF.drew _) hbc | exact FillS.below HFb hbc | exact FillS.below HFc hbc); obtain ⟨hc00, hf00⟩ := HX.out _ HFa)
                | (go_at_call 28; (with_reducible refine (lcs_at_01 _ _ _ b.length i k _ bN bb bi bk1 l01).mono ?_); rintro e w2 ⟨rfl, hbc⟩; (have HFb : FillS w a b xs w2 := by first | exact FillS.below (HF.drew _) hbc | exact FillS.below HFa hbc | exact FillS.below HFc hbc); obtain ⟨hc00, hf00⟩ := HX.out _ HFb)
                | (go_at_call 28; (with_reducible refine (lcs_at_00 _ _ _ b.length i k _ bN bb bi bk l00).mono ?_); rintro e w2 ⟨rfl, hbc⟩; (have HFc : FillS w a b xs w2 := by first | exact FillS.below (HF.drew _) hbc | exact FillS.below HFa hbc | exact FillS.below HFb hbc); obtain ⟨hc00, hf00⟩ := HX.out _ HFc))
            have HF3 := Aside0.mk (FillS.set (show FillS w a b xs w2 from by first | exact HFa | exact HFb | exact HFc) (i * (b.length + 1) + k) m)
            clear HFa HFb HFc HF wi wk hc00 hf00 hmx
            go_wp2
            go_roundw
            case rel => exact ⟨k, _, by omega, by go_num, HG2, HF3.out⟩
            case measure => simp [intOf]

/-- How long the longest common row is. -/
def lcs_Length.f (a b : List ByteArray) : Option Int := if a.length ≤ 10000 ∧ b.length ≤ 10000 then some ((lcsL a b : Nat) : Int) else none

theorem lcs_Length.calls (A0 : Option Addr) (c0 : Nat) (l0 : List ByteArray) (A1 : Option Addr) (c1 : Nat) (l1 : List ByteArray) (r : Int) (w : World) (hr0 : Kd.C Kd.string w A0 l0.length l0) (hc0 : l0.length ≤ c0) (hr1 : Kd.C Kd.string w A1 l1.length l1) (hc1 : l1.length ≤ c1) (h : lcs_Length.f l0 l1 = some r) :
    Calls Try.prog 19 #[.slice A0 l0.length c0, .slice A1 l1.length c1] w fun e w' => e = .returned (.int .i64 r) ∧ Below w.heap.size w w' := by
  unfold lcs_Length.f at h
  split at h
  · rename_i hok
    obtain ⟨hla, hlb⟩ := hok
    have H := Aside0.mk (Option.some.inj h)
    have HR0 := Aside0.mk hr0
    have HR1 := Aside0.mk hr1
    clear h hr0 hr1 hc0 hc1
    go_enter Try.func19, Try.ntmps19
    go_wp2_with (first
      | (go_at_call 27; refine (lcs_fill_calls A0 c0 l0 A1 c1 l1 _ HR0.out HR1.out hla hlb).mono ?_; rintro e w1 ⟨G, xs, rfl, hG, hh, HG, hb⟩)
      | (go_at_call 28; refine (lcs_at_z G _ _ l1.length _ (by have := Nat.mul_le_mul (show l0.length + 1 ≤ 10001 by omega) (show l1.length + 1 ≤ 10001 by omega); omega) (by omega) (Nat.mul_pos (by omega) (by omega))).mono ?_; rintro e w2 ⟨rfl, hb2⟩; have hx := numCell hh (show 0 < xs.length by rw [HG.1]; exact Nat.mul_pos (by omega) (by omega)); have hx2 := (hb2.cell (p := ⟨G, 0, none⟩) (lt_of_block hh)).trans hx))
    go_ret
    refine ⟨?_, hb.trans (hb2.mono hb.size)⟩
    have hv := HG.2.1 0 0 (Nat.le_refl _) (Nat.zero_le _) (Nat.zero_le _)
    rw [Nat.zero_mul, Nat.zero_add, List.drop_zero, List.drop_zero] at hv
    rw [← H.out, ← hv]
    simp
  · cases h
end Go.Proofs.Ytimchoebiadhmaa.X
