/- The texts that the law EditSets wants, part 5 of 7: what is kept of them. -/
import Derived.Test.YtaolakknkhggnaaCEditSets4
section
namespace Go.Proofs.Ytaolakknkhggnaa.X
open Go.RowKit Go.Maps Go.Shelf Go.Proofs.YtaolakknkhggnaaW.PrintWords Go.Proofs.YtaolakknkhggnaaW.PrintLast
set_option linter.unusedVariables false
set_option linter.unusedSimpArgs false
theorem rows_of_check {hd : List ByteArray} {rows : List (List ByteArray)} (h : checkT hd rows = 0) : ∀ x, x = hd ∨ x ∈ rows → x.length = hd.length := by
  have hw : wideR rows hd.length = false := by
    rcases Bool.eq_false_or_eq_true (wideR rows hd.length) with hw | hw
    · exfalso
      unfold checkT at h
      simp only [ckR, hw, if_true] at h
      split at h
      · split at h <;> simp_all
      · simp at h
    · exact hw
  rintro x (rfl | hx)
  · rfl
  · unfold wideR at hw
    rw [List.any_eq_false] at hw
    simpa using hw x hx
def okE (hd : List ByteArray) (rows : List (List ByteArray)) : Bool := okT hd rows && decide (hd.length ≤ 90000) && decide (rows.length ≤ 90000)
theorem okE_parts {hd : List ByteArray} {rows : List (List ByteArray)} (h : okE hd rows = true) : okT hd rows = true ∧ hd.length ≤ 90000 ∧ rows.length ≤ 90000 := by
  simp only [okE, Bool.and_eq_true, decide_eq_true_eq] at h
  exact ⟨h.1.1, h.1.2, h.2⟩
theorem okT_mk {hd : List ByteArray} {rows : List (List ByteArray)} (h1 : hd.length ≤ 100000) (h2 : rows.length ≤ 100000) (h3 : ∀ s ∈ hd, s.size ≤ maxLen) : okT hd rows = true := by
  simp only [okT, Bool.and_eq_true, decide_eq_true_eq, List.all_eq_true]
  exact ⟨⟨h1, h2⟩, h3⟩
theorem okT_size {hd : List ByteArray} {rows : List (List ByteArray)} (h : okT hd rows = true) : ∀ s ∈ hd, s.size ≤ maxLen := by
  simp only [okT, Bool.and_eq_true, decide_eq_true_eq, List.all_eq_true] at h
  exact h.2
theorem mem_dropL {α : Type} {l : List α} {i : Nat} {x : α} (h : x ∈ dropL l i) : x ∈ l := by
  rcases List.mem_append.1 h with h | h
  · exact List.mem_of_mem_take h
  · exact List.mem_of_mem_drop h
theorem mem_putL {α : Type} {l : List α} {i : Nat} {x y : α} (h : x ∈ putL l i y) : x = y ∨ x ∈ l := by
  rcases List.mem_append.1 h with h | h
  · exact .inr (List.mem_of_mem_take h)
  · rcases List.mem_cons.1 h with h | h
    · exact .inl h
    · exact .inr (List.mem_of_mem_drop h)
theorem len_dropL {α : Type} (l : List α) (i : Nat) : (dropL l i).length ≤ l.length := by unfold dropL; simp; omega
theorem len_putL {α : Type} (l : List α) (i : Nat) (x : α) : (putL l i x).length = l.length + 1 := by unfold putL; simp; omega
theorem xIn2_zero {a b : Int} {n m : Nat} (h : xIn2 a n b m = 0) : (0 ≤ a ∧ a < (n : Int)) ∧ (0 ≤ b ∧ b < (m : Int)) := by
  unfold xIn2 at h
  split at h
  · assumption
  · simp at h
theorem getD_mem {l : List ByteArray} {k : Nat} (h : k < l.length) : l.getD k ByteArray.empty ∈ l := by rw [List.getD_eq_getElem?_getD, List.getElem?_eq_getElem h]; exact List.getElem_mem h
def edit_DeleteCol.f (l0_0 : List ByteArray) (l0_1 : List (List ByteArray)) (a1 : Int) : Option (List ByteArray × List (List ByteArray) × Int) := if (okE l0_0 l0_1 && true) = true then some (madeT l0_0 l0_1 (xIn a1 l0_0.length) (dropL l0_0 a1.toNat) (l0_1.map fun l => dropL l a1.toNat)) else none
theorem edit_DeleteCol.ok (l0_0 : List ByteArray) (l0_1 : List (List ByteArray)) (a1 : Int) (hok : (okE l0_0 l0_1 && true) = true) (hck : checkT l0_0 l0_1 = 0) (hx : (xIn a1 l0_0.length) = 0) : okT (dropL l0_0 a1.toNat) (l0_1.map fun l => dropL l a1.toNat) = true := by
  rw [Bool.and_eq_true] at hok
  obtain ⟨hT, h1, h2⟩ := okE_parts hok.1
  have hs := okT_size hT
  have h3 := len_dropL l0_0 a1.toNat
  exact okT_mk (by omega) (by rw [List.length_map]; omega) (fun s h => hs s (mem_dropL h))
set_option maxRecDepth 100000 in
set_option maxHeartbeats 4000000 in
theorem edit_DeleteCol.calls (A0 : Option Addr) (c0 : Nat) (l0_0 : List ByteArray) (A1 : Option Addr) (c1 : Nat) (l0_1 : List (List ByteArray)) (a1 : Int) (r1 : List ByteArray) (r2 : List (List ByteArray)) (r3 : Int) (w : World) (hr0 : Kd.C Kd.string w A0 l0_0.length l0_0) (hc0 : l0_0.length ≤ c0) (hr1 : Kd.C (Kd.slice 9 Kd.string) w A1 l0_1.length l0_1) (hc1 : l0_1.length ≤ c1) (h : edit_DeleteCol.f l0_0 l0_1 a1 = some (r1, r2, r3)) :
    Calls Try.prog 23 #[.agg #[.slice A0 l0_0.length c0, .slice A1 l0_1.length c1], .int .i64 a1] w fun e w' => ∃ v0_ v1_ : Value, e = .returned (.tuple #[.agg #[v0_, v1_], .int .i64 r3]) ∧ Kd.R Kd.string 9 w' w.heap.size (fun _ => True) v0_ r1 ∧ Kd.S (Kd.slice 9 Kd.string) 22 w' w.heap.size (fun k_ => some k_ ≠ (v0_ : Value).ownBlock) v1_ r2 ∧ Below w.heap.size w w' := by
  have hmf : ∀ (fn : Fn) (first cap : Array Value) (w : World), (Instr.makeFunc fn first cap).run Try.prog w = .ok (.func fn first cap) w := fun _ _ _ _ => rfl
  unfold edit_DeleteCol.f at h
  split at h
  case isFalse => exact nomatch h
  rename_i hok
  have h1 := Option.some.inj h
  obtain ⟨hT0, hh0, hl0⟩ := okE_parts (Bool.and_eq_true_iff.1 hok).1
  obtain ⟨W0, hW0⟩ : ∃ W0, W0 = (((w.alloc (.cells #[.slice A0 l0_0.length c0, .slice A1 l0_1.length c1] 25)).alloc (.cells #[.int .i64 a1] 3)).alloc (.cells #[.slice none 0 0, .slice none 0 0] 25)) := ⟨_, rfl⟩
  have hb0 : Below w.heap.size w W0 := by rw [hW0]; exact below_alloc (below_alloc (below_alloc (Below.refl _ _) _) _) _
  have hx0 : W0.heap[w.heap.size]? = some (.cells #[.slice A0 l0_0.length c0, .slice A1 l0_1.length c1] 25) := by
    rw [hW0]
    have h := blk_new w (.cells #[.slice A0 l0_0.length c0, .slice A1 l0_1.length c1] 25)
    exact ((below_alloc (below_alloc (Below.refl _ (w.alloc (.cells #[.slice A0 l0_0.length c0, .slice A1 l0_1.length c1] 25))) _) _).block _ (by simp only [World.size_alloc]; omega)).trans h
  have hx1 : W0.heap[w.heap.size + 1]? = some (.cells #[.int .i64 a1] 3) := by
    rw [hW0]
    have h := blk_new (w.alloc (.cells #[.slice A0 l0_0.length c0, .slice A1 l0_1.length c1] 25)) (.cells #[.int .i64 a1] 3)
    rw [World.size_alloc] at h
    exact ((below_alloc (Below.refl _ ((w.alloc (.cells #[.slice A0 l0_0.length c0, .slice A1 l0_1.length c1] 25)).alloc (.cells #[.int .i64 a1] 3))) _).block _ (by simp only [World.size_alloc]; omega)).trans h
  have hx2 : W0.heap[w.heap.size + 1 + 1]? = some (.cells #[.slice none 0 0, .slice none 0 0] 25) := by
    rw [hW0]
    have h := blk_new ((w.alloc (.cells #[.slice A0 l0_0.length c0, .slice A1 l0_1.length c1] 25)).alloc (.cells #[.int .i64 a1] 3)) (.cells #[.slice none 0 0, .slice none 0 0] 25)
    rw [World.size_alloc, World.size_alloc] at h
    exact h
  have hM0 := made_calls 57 #[.pointer (some ⟨w.heap.size + 1, 0, none⟩), .pointer (some ⟨w.heap.size, 0, none⟩)] A0 c0 l0_0 A1 c1 l0_1 (xIn a1 l0_0.length) (dropL l0_0 a1.toNat) (l0_1.map fun l => dropL l a1.toNat) W0 (Kd.C_below hr0 hb0) hc0 (Kd.C_below hr1 hb0) hc1 hT0 (edit_DeleteCol.ok l0_0 l0_1 a1 hok) (fun args W => enters_ Try.func57 (by kernel_rfl) rfl args W) (fun hck => how57 W0 _ _ A0 c0 l0_0 A1 c1 l0_1 ⟨hx0, Kd.C_below hr0 hb0, hc0, Kd.C_below hr1 hb0, by omega, by omega, rows_of_check hck⟩ a1 hx1)
  rw [h1] at hM0
  have HM := Aside0.mk hM0
  have HB0 := Aside0.mk hb0
  have HZ0 := Aside0.mk hx2
  have HW0 := Aside0.mk hW0
  clear hM0 hb0 hW0 h h1 hok hT0 hh0 hl0 hr0 hr1 hx0 hx1 hx2
  go_enter Try.func23, Try.ntmps23
  go_wp2_with (go_at_call 35; rw [← HW0.out]; refine HM.out.mono ?_; rintro e w1 ⟨v0, v1, rfl, hM, hb1⟩; obtain ⟨Av, cv, rfl, hcv, hCv⟩ := Kd.R_reads hM.1; obtain ⟨Ar, cr, rfl, hcr, hCr⟩ := Kd.S_reads hM.2; have HN := Aside0.mk hM; have HB1 := Aside0.mk hb1; have HZ1 := Aside0.mk ((hb1.block _ (lt_of_block HZ0.out)).trans HZ0.out); have hy0 := blk_cell HZ1.out 0; have hy1 := blk_cell HZ1.out 1; have hu0 := blk_frozen HZ1.out 0; have hu1 := blk_frozen HZ1.out 1; clear hM hb1 hCv hCr HM)
  have hf0 : ((w1.setCell ⟨w.heap.size + 1 + 1, 0, none⟩ (.slice Av r1.length cv)).setCell ⟨w.heap.size + 1 + 1, 1, none⟩ (.slice Ar r2.length cr)).heap[w.heap.size + 1 + 1]? = some (.cells #[.slice Av r1.length cv, .slice Ar r2.length cr] 25 (0, 0)) := heap_setCell_same _ _ 1 _ _ _ (heap_setCell_same _ _ 0 _ _ _ HZ1.out)
  have hc0 := blk_cell hf0 0
  have hc1 := blk_cell hf0 1
  refine bodyPost_ret (v := .tuple #[.agg #[.slice Av r1.length cv, .slice Ar r2.length cr], .int .i64 r3]) (by simp [results, Try.results23, go_sem, hc0, hc1]) rfl ?_
  have hlt := lt_of_block HZ0.out
  have hZ := ((HN.out.far (p := ⟨w.heap.size + 1 + 1, 0, none⟩) hlt (.slice Av r1.length cv)).far (p := ⟨w.heap.size + 1 + 1, 1, none⟩) hlt (.slice Ar r2.length cr)).lower HB0.out.size
  exact ⟨_, _, rfl, hZ.1, hZ.2, ((HB0.out.trans (HB1.out.mono HB0.out.size)).setCell (by show w.heap.size ≤ w.heap.size + 1 + 1; omega) _).setCell (by show w.heap.size ≤ w.heap.size + 1 + 1; omega) _⟩
theorem edit_DeleteRow.ok (l0_0 : List ByteArray) (l0_1 : List (List ByteArray)) (a1 : Int) (hok : (okE l0_0 l0_1 && true) = true) (hck : checkT l0_0 l0_1 = 0) (hx : (xIn a1 l0_1.length) = 0) : okT l0_0 (dropL l0_1 a1.toNat) = true := by
  rw [Bool.and_eq_true] at hok
  obtain ⟨hT, h1, h2⟩ := okE_parts hok.1
  have hs := okT_size hT
  have h3 := len_dropL l0_1 a1.toNat
  exact okT_mk (by omega) (by omega) hs
def edit_RenameCol.f (l0_0 : List ByteArray) (l0_1 : List (List ByteArray)) (a1 : Int) (a2 : ByteArray) : Option (List ByteArray × List (List ByteArray) × Int) := if (okE l0_0 l0_1 && decide (a2.size ≤ maxLen)) = true then some (madeT l0_0 l0_1 (xIn a1 l0_0.length) (l0_0.set a1.toNat a2) l0_1) else none
theorem edit_RenameCol.ok (l0_0 : List ByteArray) (l0_1 : List (List ByteArray)) (a1 : Int) (a2 : ByteArray) (hok : (okE l0_0 l0_1 && decide (a2.size ≤ maxLen)) = true) (hck : checkT l0_0 l0_1 = 0) (hx : (xIn a1 l0_0.length) = 0) : okT (l0_0.set a1.toNat a2) l0_1 = true := by
  rw [Bool.and_eq_true] at hok
  obtain ⟨hT, h1, h2⟩ := okE_parts hok.1
  have hs := okT_size hT
  have hz := of_decide_eq_true hok.2
  exact okT_mk (by rw [List.length_set]; omega) (by omega) (fun s h => by
    rcases List.mem_or_eq_of_mem_set h with h | h
    · exact hs s h
    · rw [h]; exact hz)
set_option maxRecDepth 100000 in
set_option maxHeartbeats 4000000 in
theorem edit_RenameCol.calls (A0 : Option Addr) (c0 : Nat) (l0_0 : List ByteArray) (A1 : Option Addr) (c1 : Nat) (l0_1 : List (List ByteArray)) (a1 : Int) (a2 : ByteArray) (r1 : List ByteArray) (r2 : List (List ByteArray)) (r3 : Int) (w : World) (hr0 : Kd.C Kd.string w A0 l0_0.length l0_0) (hc0 : l0_0.length ≤ c0) (hr1 : Kd.C (Kd.slice 9 Kd.string) w A1 l0_1.length l0_1) (hc1 : l0_1.length ≤ c1) (h : edit_RenameCol.f l0_0 l0_1 a1 a2 = some (r1, r2, r3)) :
    Calls Try.prog 27 #[.agg #[.slice A0 l0_0.length c0, .slice A1 l0_1.length c1], .int .i64 a1, .string a2] w fun e w' => ∃ v0_ v1_ : Value, e = .returned (.tuple #[.agg #[v0_, v1_], .int .i64 r3]) ∧ Kd.R Kd.string 9 w' w.heap.size (fun _ => True) v0_ r1 ∧ Kd.S (Kd.slice 9 Kd.string) 22 w' w.heap.size (fun k_ => some k_ ≠ (v0_ : Value).ownBlock) v1_ r2 ∧ Below w.heap.size w w' := by
  have hmf : ∀ (fn : Fn) (first cap : Array Value) (w : World), (Instr.makeFunc fn first cap).run Try.prog w = .ok (.func fn first cap) w := fun _ _ _ _ => rfl
  unfold edit_RenameCol.f at h
  split at h
  case isFalse => exact nomatch h
  rename_i hok
  have h1 := Option.some.inj h
  obtain ⟨hT0, hh0, hl0⟩ := okE_parts (Bool.and_eq_true_iff.1 hok).1
  obtain ⟨W0, hW0⟩ : ∃ W0, W0 = ((((w.alloc (.cells #[.slice A0 l0_0.length c0, .slice A1 l0_1.length c1] 25)).alloc (.cells #[.int .i64 a1] 3)).alloc (.cells #[.string a2] 9)).alloc (.cells #[.slice none 0 0, .slice none 0 0] 25)) := ⟨_, rfl⟩
  have hb0 : Below w.heap.size w W0 := by rw [hW0]; exact below_alloc (below_alloc (below_alloc (below_alloc (Below.refl _ _) _) _) _) _
  have hx0 : W0.heap[w.heap.size]? = some (.cells #[.slice A0 l0_0.length c0, .slice A1 l0_1.length c1] 25) := by
    rw [hW0]
    have h := blk_new w (.cells #[.slice A0 l0_0.length c0, .slice A1 l0_1.length c1] 25)
    exact ((below_alloc (below_alloc (below_alloc (Below.refl _ (w.alloc (.cells #[.slice A0 l0_0.length c0, .slice A1 l0_1.length c1] 25))) _) _) _).block _ (by simp only [World.size_alloc]; omega)).trans h
  have hx1 : W0.heap[w.heap.size + 1]? = some (.cells #[.int .i64 a1] 3) := by
    rw [hW0]
    have h := blk_new (w.alloc (.cells #[.slice A0 l0_0.length c0, .slice A1 l0_1.length c1] 25)) (.cells #[.int .i64 a1] 3)
    rw [World.size_alloc] at h
    exact ((below_alloc (below_alloc (Below.refl _ ((w.alloc (.cells #[.slice A0 l0_0.length c0, .slice A1 l0_1.length c1] 25)).alloc (.cells #[.int .i64 a1] 3))) _) _).block _ (by simp only [World.size_alloc]; omega)).trans h
  have hx2 : W0.heap[w.heap.size + 1 + 1]? = some (.cells #[.string a2] 9) := by
    rw [hW0]
    have h := blk_new ((w.alloc (.cells #[.slice A0 l0_0.length c0, .slice A1 l0_1.length c1] 25)).alloc (.cells #[.int .i64 a1] 3)) (.cells #[.string a2] 9)
    rw [World.size_alloc, World.size_alloc] at h
    exact ((below_alloc (Below.refl _ (((w.alloc (.cells #[.slice A0 l0_0.length c0, .slice A1 l0_1.length c1] 25)).alloc (.cells #[.int .i64 a1] 3)).alloc (.cells #[.string a2] 9))) _).block _ (by simp only [World.size_alloc]; omega)).trans h
  have hx3 : W0.heap[w.heap.size + 1 + 1 + 1]? = some (.cells #[.slice none 0 0, .slice none 0 0] 25) := by
    rw [hW0]
    have h := blk_new (((w.alloc (.cells #[.slice A0 l0_0.length c0, .slice A1 l0_1.length c1] 25)).alloc (.cells #[.int .i64 a1] 3)).alloc (.cells #[.string a2] 9)) (.cells #[.slice none 0 0, .slice none 0 0] 25)
    rw [World.size_alloc, World.size_alloc, World.size_alloc] at h
    exact h
  have hM0 := made_calls 68 #[.pointer (some ⟨w.heap.size + 1, 0, none⟩), .pointer (some ⟨w.heap.size, 0, none⟩), .pointer (some ⟨w.heap.size + 1 + 1, 0, none⟩)] A0 c0 l0_0 A1 c1 l0_1 (xIn a1 l0_0.length) (l0_0.set a1.toNat a2) l0_1 W0 (Kd.C_below hr0 hb0) hc0 (Kd.C_below hr1 hb0) hc1 hT0 (edit_RenameCol.ok l0_0 l0_1 a1 a2 hok) (fun args W => enters_ Try.func68 (by kernel_rfl) rfl args W) (fun hck => how68 W0 _ _ _ A0 c0 l0_0 A1 c1 l0_1 ⟨hx0, Kd.C_below hr0 hb0, hc0, Kd.C_below hr1 hb0, by omega, by omega, rows_of_check hck⟩ a1 a2 hx1 hx2)
  rw [h1] at hM0
  have HM := Aside0.mk hM0
  have HB0 := Aside0.mk hb0
  have HZ0 := Aside0.mk hx3
  have HW0 := Aside0.mk hW0
  clear hM0 hb0 hW0 h h1 hok hT0 hh0 hl0 hr0 hr1 hx0 hx1 hx2 hx3
  go_enter Try.func27, Try.ntmps27
  go_wp2_with (go_at_call 35; rw [← HW0.out]; refine HM.out.mono ?_; rintro e w1 ⟨v0, v1, rfl, hM, hb1⟩; obtain ⟨Av, cv, rfl, hcv, hCv⟩ := Kd.R_reads hM.1; obtain ⟨Ar, cr, rfl, hcr, hCr⟩ := Kd.S_reads hM.2; have HN := Aside0.mk hM; have HB1 := Aside0.mk hb1; have HZ1 := Aside0.mk ((hb1.block _ (lt_of_block HZ0.out)).trans HZ0.out); have hy0 := blk_cell HZ1.out 0; have hy1 := blk_cell HZ1.out 1; have hu0 := blk_frozen HZ1.out 0; have hu1 := blk_frozen HZ1.out 1; clear hM hb1 hCv hCr HM)
  have hf0 : ((w1.setCell ⟨w.heap.size + 1 + 1 + 1, 0, none⟩ (.slice Av r1.length cv)).setCell ⟨w.heap.size + 1 + 1 + 1, 1, none⟩ (.slice Ar r2.length cr)).heap[w.heap.size + 1 + 1 + 1]? = some (.cells #[.slice Av r1.length cv, .slice Ar r2.length cr] 25 (0, 0)) := heap_setCell_same _ _ 1 _ _ _ (heap_setCell_same _ _ 0 _ _ _ HZ1.out)
  have hc0 := blk_cell hf0 0
  have hc1 := blk_cell hf0 1
  refine bodyPost_ret (v := .tuple #[.agg #[.slice Av r1.length cv, .slice Ar r2.length cr], .int .i64 r3]) (by simp [results, Try.results27, go_sem, hc0, hc1]) rfl ?_
  have hlt := lt_of_block HZ0.out
  have hZ := ((HN.out.far (p := ⟨w.heap.size + 1 + 1 + 1, 0, none⟩) hlt (.slice Av r1.length cv)).far (p := ⟨w.heap.size + 1 + 1 + 1, 1, none⟩) hlt (.slice Ar r2.length cr)).lower HB0.out.size
  exact ⟨_, _, rfl, hZ.1, hZ.2, ((HB0.out.trans (HB1.out.mono HB0.out.size)).setCell (by show w.heap.size ≤ w.heap.size + 1 + 1 + 1; omega) _).setCell (by show w.heap.size ≤ w.heap.size + 1 + 1 + 1; omega) _⟩
def edit_MoveCol.f (l0_0 : List ByteArray) (l0_1 : List (List ByteArray)) (a1 : Int) (a2 : Int) : Option (List ByteArray × List (List ByteArray) × Int) := if (okE l0_0 l0_1 && true) = true then some (madeT l0_0 l0_1 (xIn2 a1 l0_0.length a2 l0_0.length) (putL (dropL l0_0 a1.toNat) a2.toNat (l0_0.getD a1.toNat ByteArray.empty)) (l0_1.map fun l => putL (dropL l a1.toNat) a2.toNat (l.getD a1.toNat ByteArray.empty))) else none
theorem edit_MoveCol.ok (l0_0 : List ByteArray) (l0_1 : List (List ByteArray)) (a1 : Int) (a2 : Int) (hok : (okE l0_0 l0_1 && true) = true) (hck : checkT l0_0 l0_1 = 0) (hx : (xIn2 a1 l0_0.length a2 l0_0.length) = 0) : okT (putL (dropL l0_0 a1.toNat) a2.toNat (l0_0.getD a1.toNat ByteArray.empty)) (l0_1.map fun l => putL (dropL l a1.toNat) a2.toNat (l.getD a1.toNat ByteArray.empty)) = true := by
  rw [Bool.and_eq_true] at hok
  obtain ⟨hT, h1, h2⟩ := okE_parts hok.1
  have hs := okT_size hT
  have hx2 := xIn2_zero hx
  have h3 := len_dropL l0_0 a1.toNat
  refine okT_mk (by rw [len_putL]; omega) (by rw [List.length_map]; omega) (fun s h => ?_)
  rcases mem_putL h with h | h
  · rw [h]; exact hs _ (getD_mem (by omega))
  · exact hs s (mem_dropL h)
set_option maxRecDepth 100000 in
set_option maxHeartbeats 4000000 in
theorem edit_MoveCol.calls (A0 : Option Addr) (c0 : Nat) (l0_0 : List ByteArray) (A1 : Option Addr) (c1 : Nat) (l0_1 : List (List ByteArray)) (a1 : Int) (a2 : Int) (r1 : List ByteArray) (r2 : List (List ByteArray)) (r3 : Int) (w : World) (hr0 : Kd.C Kd.string w A0 l0_0.length l0_0) (hc0 : l0_0.length ≤ c0) (hr1 : Kd.C (Kd.slice 9 Kd.string) w A1 l0_1.length l0_1) (hc1 : l0_1.length ≤ c1) (h : edit_MoveCol.f l0_0 l0_1 a1 a2 = some (r1, r2, r3)) :
    Calls Try.prog 20 #[.agg #[.slice A0 l0_0.length c0, .slice A1 l0_1.length c1], .int .i64 a1, .int .i64 a2] w fun e w' => ∃ v0_ v1_ : Value, e = .returned (.tuple #[.agg #[v0_, v1_], .int .i64 r3]) ∧ Kd.R Kd.string 9 w' w.heap.size (fun _ => True) v0_ r1 ∧ Kd.S (Kd.slice 9 Kd.string) 22 w' w.heap.size (fun k_ => some k_ ≠ (v0_ : Value).ownBlock) v1_ r2 ∧ Below w.heap.size w w' := by
  have hmf : ∀ (fn : Fn) (first cap : Array Value) (w : World), (Instr.makeFunc fn first cap).run Try.prog w = .ok (.func fn first cap) w := fun _ _ _ _ => rfl
  unfold edit_MoveCol.f at h
  split at h
  case isFalse => exact nomatch h
  rename_i hok
  have h1 := Option.some.inj h
  obtain ⟨hT0, hh0, hl0⟩ := okE_parts (Bool.and_eq_true_iff.1 hok).1
  obtain ⟨W0, hW0⟩ : ∃ W0, W0 = ((((w.alloc (.cells #[.slice A0 l0_0.length c0, .slice A1 l0_1.length c1] 25)).alloc (.cells #[.int .i64 a1] 3)).alloc (.cells #[.int .i64 a2] 3)).alloc (.cells #[.slice none 0 0, .slice none 0 0] 25)) := ⟨_, rfl⟩
  have hb0 : Below w.heap.size w W0 := by rw [hW0]; exact below_alloc (below_alloc (below_alloc (below_alloc (Below.refl _ _) _) _) _) _
  have hx0 : W0.heap[w.heap.size]? = some (.cells #[.slice A0 l0_0.length c0, .slice A1 l0_1.length c1] 25) := by
    rw [hW0]
    have h := blk_new w (.cells #[.slice A0 l0_0.length c0, .slice A1 l0_1.length c1] 25)
    exact ((below_alloc (below_alloc (below_alloc (Below.refl _ (w.alloc (.cells #[.slice A0 l0_0.length c0, .slice A1 l0_1.length c1] 25))) _) _) _).block _ (by simp only [World.size_alloc]; omega)).trans h
  have hx1 : W0.heap[w.heap.size + 1]? = some (.cells #[.int .i64 a1] 3) := by
    rw [hW0]
    have h := blk_new (w.alloc (.cells #[.slice A0 l0_0.length c0, .slice A1 l0_1.length c1] 25)) (.cells #[.int .i64 a1] 3)
    rw [World.size_alloc] at h
    exact ((below_alloc (below_alloc (Below.refl _ ((w.alloc (.cells #[.slice A0 l0_0.length c0, .slice A1 l0_1.length c1] 25)).alloc (.cells #[.int .i64 a1] 3))) _) _).block _ (by simp only [World.size_alloc]; omega)).trans h
  have hx2 : W0.heap[w.heap.size + 1 + 1]? = some (.cells #[.int .i64 a2] 3) := by
    rw [hW0]
    have h := blk_new ((w.alloc (.cells #[.slice A0 l0_0.length c0, .slice A1 l0_1.length c1] 25)).alloc (.cells #[.int .i64 a1] 3)) (.cells #[.int .i64 a2] 3)
    rw [World.size_alloc, World.size_alloc] at h
    exact ((below_alloc (Below.refl _ (((w.alloc (.cells #[.slice A0 l0_0.length c0, .slice A1 l0_1.length c1] 25)).alloc (.cells #[.int .i64 a1] 3)).alloc (.cells #[.int .i64 a2] 3))) _).block _ (by simp only [World.size_alloc]; omega)).trans h
  have hx3 : W0.heap[w.heap.size + 1 + 1 + 1]? = some (.cells #[.slice none 0 0, .slice none 0 0] 25) := by
    rw [hW0]
    have h := blk_new (((w.alloc (.cells #[.slice A0 l0_0.length c0, .slice A1 l0_1.length c1] 25)).alloc (.cells #[.int .i64 a1] 3)).alloc (.cells #[.int .i64 a2] 3)) (.cells #[.slice none 0 0, .slice none 0 0] 25)
    rw [World.size_alloc, World.size_alloc, World.size_alloc] at h
    exact h
  have hM0 := made_calls 46 #[.pointer (some ⟨w.heap.size + 1, 0, none⟩), .pointer (some ⟨w.heap.size, 0, none⟩), .pointer (some ⟨w.heap.size + 1 + 1, 0, none⟩)] A0 c0 l0_0 A1 c1 l0_1 (xIn2 a1 l0_0.length a2 l0_0.length) (putL (dropL l0_0 a1.toNat) a2.toNat (l0_0.getD a1.toNat ByteArray.empty)) (l0_1.map fun l => putL (dropL l a1.toNat) a2.toNat (l.getD a1.toNat ByteArray.empty)) W0 (Kd.C_below hr0 hb0) hc0 (Kd.C_below hr1 hb0) hc1 hT0 (edit_MoveCol.ok l0_0 l0_1 a1 a2 hok) (fun args W => enters_ Try.func46 (by kernel_rfl) rfl args W) (fun hck => how46 W0 _ _ _ A0 c0 l0_0 A1 c1 l0_1 ⟨hx0, Kd.C_below hr0 hb0, hc0, Kd.C_below hr1 hb0, by omega, by omega, rows_of_check hck⟩ a1 a2 hx1 hx2)
  rw [h1] at hM0
  have HM := Aside0.mk hM0
  have HB0 := Aside0.mk hb0
  have HZ0 := Aside0.mk hx3
  have HW0 := Aside0.mk hW0
  clear hM0 hb0 hW0 h h1 hok hT0 hh0 hl0 hr0 hr1 hx0 hx1 hx2 hx3
  go_enter Try.func20, Try.ntmps20
  go_wp2_with (go_at_call 35; rw [← HW0.out]; refine HM.out.mono ?_; rintro e w1 ⟨v0, v1, rfl, hM, hb1⟩; obtain ⟨Av, cv, rfl, hcv, hCv⟩ := Kd.R_reads hM.1; obtain ⟨Ar, cr, rfl, hcr, hCr⟩ := Kd.S_reads hM.2; have HN := Aside0.mk hM; have HB1 := Aside0.mk hb1; have HZ1 := Aside0.mk ((hb1.block _ (lt_of_block HZ0.out)).trans HZ0.out); have hy0 := blk_cell HZ1.out 0; have hy1 := blk_cell HZ1.out 1; have hu0 := blk_frozen HZ1.out 0; have hu1 := blk_frozen HZ1.out 1; clear hM hb1 hCv hCr HM)
  have hf0 : ((w1.setCell ⟨w.heap.size + 1 + 1 + 1, 0, none⟩ (.slice Av r1.length cv)).setCell ⟨w.heap.size + 1 + 1 + 1, 1, none⟩ (.slice Ar r2.length cr)).heap[w.heap.size + 1 + 1 + 1]? = some (.cells #[.slice Av r1.length cv, .slice Ar r2.length cr] 25 (0, 0)) := heap_setCell_same _ _ 1 _ _ _ (heap_setCell_same _ _ 0 _ _ _ HZ1.out)
  have hc0 := blk_cell hf0 0
  have hc1 := blk_cell hf0 1
  refine bodyPost_ret (v := .tuple #[.agg #[.slice Av r1.length cv, .slice Ar r2.length cr], .int .i64 r3]) (by simp [results, Try.results20, go_sem, hc0, hc1]) rfl ?_
  have hlt := lt_of_block HZ0.out
  have hZ := ((HN.out.far (p := ⟨w.heap.size + 1 + 1 + 1, 0, none⟩) hlt (.slice Av r1.length cv)).far (p := ⟨w.heap.size + 1 + 1 + 1, 1, none⟩) hlt (.slice Ar r2.length cr)).lower HB0.out.size
  exact ⟨_, _, rfl, hZ.1, hZ.2, ((HB0.out.trans (HB1.out.mono HB0.out.size)).setCell (by show w.heap.size ≤ w.heap.size + 1 + 1 + 1; omega) _).setCell (by show w.heap.size ≤ w.heap.size + 1 + 1 + 1; omega) _⟩
theorem edit_MoveRow.ok (l0_0 : List ByteArray) (l0_1 : List (List ByteArray)) (a1 : Int) (a2 : Int) (hok : (okE l0_0 l0_1 && true) = true) (hck : checkT l0_0 l0_1 = 0) (hx : (xIn2 a1 l0_1.length a2 l0_1.length) = 0) : okT l0_0 (putL (dropL l0_1 a1.toNat) a2.toNat (l0_1.getD a1.toNat [])) = true := by
  rw [Bool.and_eq_true] at hok
  obtain ⟨hT, h1, h2⟩ := okE_parts hok.1
  have hs := okT_size hT
  have h3 := len_dropL l0_1 a1.toNat
  exact okT_mk (by omega) (by rw [len_putL]; omega) hs
def edit_Set.f (l0_0 : List ByteArray) (l0_1 : List (List ByteArray)) (a1 : Int) (a2 : Int) (a3 : ByteArray) : Option (List ByteArray × List (List ByteArray) × Int) := if (okE l0_0 l0_1 && true) = true then some (madeT l0_0 l0_1 (xIn2 a1 l0_1.length a2 l0_0.length) l0_0 (l0_1.set a1.toNat ((l0_1.getD a1.toNat []).set a2.toNat a3))) else none
theorem edit_Set.ok (l0_0 : List ByteArray) (l0_1 : List (List ByteArray)) (a1 : Int) (a2 : Int) (a3 : ByteArray) (hok : (okE l0_0 l0_1 && true) = true) (hck : checkT l0_0 l0_1 = 0) (hx : (xIn2 a1 l0_1.length a2 l0_0.length) = 0) : okT l0_0 (l0_1.set a1.toNat ((l0_1.getD a1.toNat []).set a2.toNat a3)) = true := by
  rw [Bool.and_eq_true] at hok
  obtain ⟨hT, h1, h2⟩ := okE_parts hok.1
  have hs := okT_size hT
  exact okT_mk (by omega) (by rw [List.length_set]; omega) hs
set_option maxRecDepth 100000 in
set_option maxHeartbeats 4000000 in
theorem edit_Set.calls (A0 : Option Addr) (c0 : Nat) (l0_0 : List ByteArray) (A1 : Option Addr) (c1 : Nat) (l0_1 : List (List ByteArray)) (a1 : Int) (a2 : Int) (a3 : ByteArray) (r1 : List ByteArray) (r2 : List (List ByteArray)) (r3 : Int) (w : World) (hr0 : Kd.C Kd.string w A0 l0_0.length l0_0) (hc0 : l0_0.length ≤ c0) (hr1 : Kd.C (Kd.slice 9 Kd.string) w A1 l0_1.length l0_1) (hc1 : l0_1.length ≤ c1) (h : edit_Set.f l0_0 l0_1 a1 a2 a3 = some (r1, r2, r3)) :
    Calls Try.prog 16 #[.agg #[.slice A0 l0_0.length c0, .slice A1 l0_1.length c1], .int .i64 a1, .int .i64 a2, .string a3] w fun e w' => ∃ v0_ v1_ : Value, e = .returned (.tuple #[.agg #[v0_, v1_], .int .i64 r3]) ∧ Kd.R Kd.string 9 w' w.heap.size (fun _ => True) v0_ r1 ∧ Kd.S (Kd.slice 9 Kd.string) 22 w' w.heap.size (fun k_ => some k_ ≠ (v0_ : Value).ownBlock) v1_ r2 ∧ Below w.heap.size w w' := by
  have hmf : ∀ (fn : Fn) (first cap : Array Value) (w : World), (Instr.makeFunc fn first cap).run Try.prog w = .ok (.func fn first cap) w := fun _ _ _ _ => rfl
  unfold edit_Set.f at h
  split at h
  case isFalse => exact nomatch h
  rename_i hok
  have h1 := Option.some.inj h
  obtain ⟨hT0, hh0, hl0⟩ := okE_parts (Bool.and_eq_true_iff.1 hok).1
  obtain ⟨W0, hW0⟩ : ∃ W0, W0 = (((((w.alloc (.cells #[.slice A0 l0_0.length c0, .slice A1 l0_1.length c1] 25)).alloc (.cells #[.int .i64 a1] 3)).alloc (.cells #[.int .i64 a2] 3)).alloc (.cells #[.string a3] 9)).alloc (.cells #[.slice none 0 0, .slice none 0 0] 25)) := ⟨_, rfl⟩
  have hb0 : Below w.heap.size w W0 := by rw [hW0]; exact below_alloc (below_alloc (below_alloc (below_alloc (below_alloc (Below.refl _ _) _) _) _) _) _
  have hx0 : W0.heap[w.heap.size]? = some (.cells #[.slice A0 l0_0.length c0, .slice A1 l0_1.length c1] 25) := by
    rw [hW0]
    have h := blk_new w (.cells #[.slice A0 l0_0.length c0, .slice A1 l0_1.length c1] 25)
    exact ((below_alloc (below_alloc (below_alloc (below_alloc (Below.refl _ (w.alloc (.cells #[.slice A0 l0_0.length c0, .slice A1 l0_1.length c1] 25))) _) _) _) _).block _ (by simp only [World.size_alloc]; omega)).trans h
  have hx1 : W0.heap[w.heap.size + 1]? = some (.cells #[.int .i64 a1] 3) := by
    rw [hW0]
    have h := blk_new (w.alloc (.cells #[.slice A0 l0_0.length c0, .slice A1 l0_1.length c1] 25)) (.cells #[.int .i64 a1] 3)
    rw [World.size_alloc] at h
    exact ((below_alloc (below_alloc (below_alloc (Below.refl _ ((w.alloc (.cells #[.slice A0 l0_0.length c0, .slice A1 l0_1.length c1] 25)).alloc (.cells #[.int .i64 a1] 3))) _) _) _).block _ (by simp only [World.size_alloc]; omega)).trans h
  have hx2 : W0.heap[w.heap.size + 1 + 1]? = some (.cells #[.int .i64 a2] 3) := by
    rw [hW0]
    have h := blk_new ((w.alloc (.cells #[.slice A0 l0_0.length c0, .slice A1 l0_1.length c1] 25)).alloc (.cells #[.int .i64 a1] 3)) (.cells #[.int .i64 a2] 3)
    rw [World.size_alloc, World.size_alloc] at h
    exact ((below_alloc (below_alloc (Below.refl _ (((w.alloc (.cells #[.slice A0 l0_0.length c0, .slice A1 l0_1.length c1] 25)).alloc (.cells #[.int .i64 a1] 3)).alloc (.cells #[.int .i64 a2] 3))) _) _).block _ (by simp only [World.size_alloc]; omega)).trans h
  have hx3 : W0.heap[w.heap.size + 1 + 1 + 1]? = some (.cells #[.string a3] 9) := by
    rw [hW0]
    have h := blk_new (((w.alloc (.cells #[.slice A0 l0_0.length c0, .slice A1 l0_1.length c1] 25)).alloc (.cells #[.int .i64 a1] 3)).alloc (.cells #[.int .i64 a2] 3)) (.cells #[.string a3] 9)
    rw [World.size_alloc, World.size_alloc, World.size_alloc] at h
    exact ((below_alloc (Below.refl _ ((((w.alloc (.cells #[.slice A0 l0_0.length c0, .slice A1 l0_1.length c1] 25)).alloc (.cells #[.int .i64 a1] 3)).alloc (.cells #[.int .i64 a2] 3)).alloc (.cells #[.string a3] 9))) _).block _ (by simp only [World.size_alloc]; omega)).trans h
  have hx4 : W0.heap[w.heap.size + 1 + 1 + 1 + 1]? = some (.cells #[.slice none 0 0, .slice none 0 0] 25) := by
    rw [hW0]
    have h := blk_new ((((w.alloc (.cells #[.slice A0 l0_0.length c0, .slice A1 l0_1.length c1] 25)).alloc (.cells #[.int .i64 a1] 3)).alloc (.cells #[.int .i64 a2] 3)).alloc (.cells #[.string a3] 9)) (.cells #[.slice none 0 0, .slice none 0 0] 25)
    rw [World.size_alloc, World.size_alloc, World.size_alloc, World.size_alloc] at h
    exact h
  have hM0 := made_calls 36 #[.pointer (some ⟨w.heap.size + 1, 0, none⟩), .pointer (some ⟨w.heap.size, 0, none⟩), .pointer (some ⟨w.heap.size + 1 + 1, 0, none⟩), .pointer (some ⟨w.heap.size + 1 + 1 + 1, 0, none⟩)] A0 c0 l0_0 A1 c1 l0_1 (xIn2 a1 l0_1.length a2 l0_0.length) l0_0 (l0_1.set a1.toNat ((l0_1.getD a1.toNat []).set a2.toNat a3)) W0 (Kd.C_below hr0 hb0) hc0 (Kd.C_below hr1 hb0) hc1 hT0 (edit_Set.ok l0_0 l0_1 a1 a2 a3 hok) (fun args W => enters_ Try.func36 (by kernel_rfl) rfl args W) (fun hck => how36 W0 _ _ _ _ A0 c0 l0_0 A1 c1 l0_1 ⟨hx0, Kd.C_below hr0 hb0, hc0, Kd.C_below hr1 hb0, by omega, by omega, rows_of_check hck⟩ a1 a2 a3 hx1 hx2 hx3)
  rw [h1] at hM0
  have HM := Aside0.mk hM0
  have HB0 := Aside0.mk hb0
  have HZ0 := Aside0.mk hx4
  have HW0 := Aside0.mk hW0
  clear hM0 hb0 hW0 h h1 hok hT0 hh0 hl0 hr0 hr1 hx0 hx1 hx2 hx3 hx4
  go_enter Try.func16, Try.ntmps16
  go_wp2_with (go_at_call 35; rw [← HW0.out]; refine HM.out.mono ?_; rintro e w1 ⟨v0, v1, rfl, hM, hb1⟩; obtain ⟨Av, cv, rfl, hcv, hCv⟩ := Kd.R_reads hM.1; obtain ⟨Ar, cr, rfl, hcr, hCr⟩ := Kd.S_reads hM.2; have HN := Aside0.mk hM; have HB1 := Aside0.mk hb1; have HZ1 := Aside0.mk ((hb1.block _ (lt_of_block HZ0.out)).trans HZ0.out); have hy0 := blk_cell HZ1.out 0; have hy1 := blk_cell HZ1.out 1; have hu0 := blk_frozen HZ1.out 0; have hu1 := blk_frozen HZ1.out 1; clear hM hb1 hCv hCr HM)
  have hf0 : ((w1.setCell ⟨w.heap.size + 1 + 1 + 1 + 1, 0, none⟩ (.slice Av r1.length cv)).setCell ⟨w.heap.size + 1 + 1 + 1 + 1, 1, none⟩ (.slice Ar r2.length cr)).heap[w.heap.size + 1 + 1 + 1 + 1]? = some (.cells #[.slice Av r1.length cv, .slice Ar r2.length cr] 25 (0, 0)) := heap_setCell_same _ _ 1 _ _ _ (heap_setCell_same _ _ 0 _ _ _ HZ1.out)
  have hc0 := blk_cell hf0 0
  have hc1 := blk_cell hf0 1
  refine bodyPost_ret (v := .tuple #[.agg #[.slice Av r1.length cv, .slice Ar r2.length cr], .int .i64 r3]) (by simp [results, Try.results16, go_sem, hc0, hc1]) rfl ?_
  have hlt := lt_of_block HZ0.out
  have hZ := ((HN.out.far (p := ⟨w.heap.size + 1 + 1 + 1 + 1, 0, none⟩) hlt (.slice Av r1.length cv)).far (p := ⟨w.heap.size + 1 + 1 + 1 + 1, 1, none⟩) hlt (.slice Ar r2.length cr)).lower HB0.out.size
  exact ⟨_, _, rfl, hZ.1, hZ.2, ((HB0.out.trans (HB1.out.mono HB0.out.size)).setCell (by show w.heap.size ≤ w.heap.size + 1 + 1 + 1 + 1; omega) _).setCell (by show w.heap.size ≤ w.heap.size + 1 + 1 + 1 + 1; omega) _⟩
def edit_InsertRow.f (l0_0 : List ByteArray) (l0_1 : List (List ByteArray)) (a1 : Int) (l2 : List ByteArray) : Option (List ByteArray × List (List ByteArray) × Int) := if (okE l0_0 l0_1 && decide (l2.length ≤ 90000)) = true then some (madeT l0_0 l0_1 (xIn a1 (l0_1.length + 1)) l0_0 (putL l0_1 a1.toNat l2)) else none
theorem edit_InsertRow.ok (l0_0 : List ByteArray) (l0_1 : List (List ByteArray)) (a1 : Int) (l2 : List ByteArray) (hok : (okE l0_0 l0_1 && decide (l2.length ≤ 90000)) = true) (hck : checkT l0_0 l0_1 = 0) (hx : (xIn a1 (l0_1.length + 1)) = 0) : okT l0_0 (putL l0_1 a1.toNat l2) = true := by
  rw [Bool.and_eq_true] at hok
  obtain ⟨hT, h1, h2⟩ := okE_parts hok.1
  have hs := okT_size hT
  exact okT_mk (by omega) (by rw [len_putL]; omega) hs
set_option maxRecDepth 100000 in
set_option maxHeartbeats 4000000 in
theorem edit_InsertRow.calls (A0 : Option Addr) (c0 : Nat) (l0_0 : List ByteArray) (A1 : Option Addr) (c1 : Nat) (l0_1 : List (List ByteArray)) (a1 : Int) (Al2 : Option Addr) (cl2 : Nat) (l2 : List ByteArray) (r1 : List ByteArray) (r2 : List (List ByteArray)) (r3 : Int) (w : World) (hr0 : Kd.C Kd.string w A0 l0_0.length l0_0) (hc0 : l0_0.length ≤ c0) (hr1 : Kd.C (Kd.slice 9 Kd.string) w A1 l0_1.length l0_1) (hc1 : l0_1.length ≤ c1) (hrl2 : Kd.C Kd.string w Al2 l2.length l2) (hcl2 : l2.length ≤ cl2) (h : edit_InsertRow.f l0_0 l0_1 a1 l2 = some (r1, r2, r3)) :
    Calls Try.prog 25 #[.agg #[.slice A0 l0_0.length c0, .slice A1 l0_1.length c1], .int .i64 a1, .slice Al2 l2.length cl2] w fun e w' => ∃ v0_ v1_ : Value, e = .returned (.tuple #[.agg #[v0_, v1_], .int .i64 r3]) ∧ Kd.R Kd.string 9 w' w.heap.size (fun _ => True) v0_ r1 ∧ Kd.S (Kd.slice 9 Kd.string) 22 w' w.heap.size (fun k_ => some k_ ≠ (v0_ : Value).ownBlock) v1_ r2 ∧ Below w.heap.size w w' := by
  have hmf : ∀ (fn : Fn) (first cap : Array Value) (w : World), (Instr.makeFunc fn first cap).run Try.prog w = .ok (.func fn first cap) w := fun _ _ _ _ => rfl
  unfold edit_InsertRow.f at h
  split at h
  case isFalse => exact nomatch h
  rename_i hok
  have h1 := Option.some.inj h
  obtain ⟨hT0, hh0, hl0⟩ := okE_parts (Bool.and_eq_true_iff.1 hok).1
  obtain ⟨W0, hW0⟩ : ∃ W0, W0 = ((((w.alloc (.cells #[.slice A0 l0_0.length c0, .slice A1 l0_1.length c1] 25)).alloc (.cells #[.int .i64 a1] 3)).alloc (.cells #[.slice Al2 l2.length cl2] 22)).alloc (.cells #[.slice none 0 0, .slice none 0 0] 25)) := ⟨_, rfl⟩
  have hb0 : Below w.heap.size w W0 := by rw [hW0]; exact below_alloc (below_alloc (below_alloc (below_alloc (Below.refl _ _) _) _) _) _
  have hx0 : W0.heap[w.heap.size]? = some (.cells #[.slice A0 l0_0.length c0, .slice A1 l0_1.length c1] 25) := by
    rw [hW0]
    have h := blk_new w (.cells #[.slice A0 l0_0.length c0, .slice A1 l0_1.length c1] 25)
    exact ((below_alloc (below_alloc (below_alloc (Below.refl _ (w.alloc (.cells #[.slice A0 l0_0.length c0, .slice A1 l0_1.length c1] 25))) _) _) _).block _ (by simp only [World.size_alloc]; omega)).trans h
  have hx1 : W0.heap[w.heap.size + 1]? = some (.cells #[.int .i64 a1] 3) := by
    rw [hW0]
    have h := blk_new (w.alloc (.cells #[.slice A0 l0_0.length c0, .slice A1 l0_1.length c1] 25)) (.cells #[.int .i64 a1] 3)
    rw [World.size_alloc] at h
    exact ((below_alloc (below_alloc (Below.refl _ ((w.alloc (.cells #[.slice A0 l0_0.length c0, .slice A1 l0_1.length c1] 25)).alloc (.cells #[.int .i64 a1] 3))) _) _).block _ (by simp only [World.size_alloc]; omega)).trans h
  have hx2 : W0.heap[w.heap.size + 1 + 1]? = some (.cells #[.slice Al2 l2.length cl2] 22) := by
    rw [hW0]
    have h := blk_new ((w.alloc (.cells #[.slice A0 l0_0.length c0, .slice A1 l0_1.length c1] 25)).alloc (.cells #[.int .i64 a1] 3)) (.cells #[.slice Al2 l2.length cl2] 22)
    rw [World.size_alloc, World.size_alloc] at h
    exact ((below_alloc (Below.refl _ (((w.alloc (.cells #[.slice A0 l0_0.length c0, .slice A1 l0_1.length c1] 25)).alloc (.cells #[.int .i64 a1] 3)).alloc (.cells #[.slice Al2 l2.length cl2] 22))) _).block _ (by simp only [World.size_alloc]; omega)).trans h
  have hx3 : W0.heap[w.heap.size + 1 + 1 + 1]? = some (.cells #[.slice none 0 0, .slice none 0 0] 25) := by
    rw [hW0]
    have h := blk_new (((w.alloc (.cells #[.slice A0 l0_0.length c0, .slice A1 l0_1.length c1] 25)).alloc (.cells #[.int .i64 a1] 3)).alloc (.cells #[.slice Al2 l2.length cl2] 22)) (.cells #[.slice none 0 0, .slice none 0 0] 25)
    rw [World.size_alloc, World.size_alloc, World.size_alloc] at h
    exact h
  have hM0 := made_calls 61 #[.pointer (some ⟨w.heap.size + 1, 0, none⟩), .pointer (some ⟨w.heap.size, 0, none⟩), .pointer (some ⟨w.heap.size + 1 + 1, 0, none⟩)] A0 c0 l0_0 A1 c1 l0_1 (xIn a1 (l0_1.length + 1)) l0_0 (putL l0_1 a1.toNat l2) W0 (Kd.C_below hr0 hb0) hc0 (Kd.C_below hr1 hb0) hc1 hT0 (edit_InsertRow.ok l0_0 l0_1 a1 l2 hok) (fun args W => enters_ Try.func61 (by kernel_rfl) rfl args W) (fun hck => how61 W0 _ _ _ A0 c0 l0_0 A1 c1 l0_1 ⟨hx0, Kd.C_below hr0 hb0, hc0, Kd.C_below hr1 hb0, by omega, by omega, rows_of_check hck⟩ a1 Al2 cl2 l2 hx1 hx2 (Kd.C_below hrl2 hb0) hcl2 (by have := of_decide_eq_true (Bool.and_eq_true_iff.1 hok).2; omega))
  rw [h1] at hM0
  have HM := Aside0.mk hM0
  have HB0 := Aside0.mk hb0
  have HZ0 := Aside0.mk hx3
  have HW0 := Aside0.mk hW0
  clear hM0 hb0 hW0 h h1 hok hT0 hh0 hl0 hr0 hr1 hx0 hx1 hx2 hx3 hrl2
  go_enter Try.func25, Try.ntmps25
  go_wp2_with (go_at_call 35; rw [← HW0.out]; refine HM.out.mono ?_; rintro e w1 ⟨v0, v1, rfl, hM, hb1⟩; obtain ⟨Av, cv, rfl, hcv, hCv⟩ := Kd.R_reads hM.1; obtain ⟨Ar, cr, rfl, hcr, hCr⟩ := Kd.S_reads hM.2; have HN := Aside0.mk hM; have HB1 := Aside0.mk hb1; have HZ1 := Aside0.mk ((hb1.block _ (lt_of_block HZ0.out)).trans HZ0.out); have hy0 := blk_cell HZ1.out 0; have hy1 := blk_cell HZ1.out 1; have hu0 := blk_frozen HZ1.out 0; have hu1 := blk_frozen HZ1.out 1; clear hM hb1 hCv hCr HM)
  have hf0 : ((w1.setCell ⟨w.heap.size + 1 + 1 + 1, 0, none⟩ (.slice Av r1.length cv)).setCell ⟨w.heap.size + 1 + 1 + 1, 1, none⟩ (.slice Ar r2.length cr)).heap[w.heap.size + 1 + 1 + 1]? = some (.cells #[.slice Av r1.length cv, .slice Ar r2.length cr] 25 (0, 0)) := heap_setCell_same _ _ 1 _ _ _ (heap_setCell_same _ _ 0 _ _ _ HZ1.out)
  have hc0 := blk_cell hf0 0
  have hc1 := blk_cell hf0 1
  refine bodyPost_ret (v := .tuple #[.agg #[.slice Av r1.length cv, .slice Ar r2.length cr], .int .i64 r3]) (by simp [results, Try.results25, go_sem, hc0, hc1]) rfl ?_
  have hlt := lt_of_block HZ0.out
  have hZ := ((HN.out.far (p := ⟨w.heap.size + 1 + 1 + 1, 0, none⟩) hlt (.slice Av r1.length cv)).far (p := ⟨w.heap.size + 1 + 1 + 1, 1, none⟩) hlt (.slice Ar r2.length cr)).lower HB0.out.size
  exact ⟨_, _, rfl, hZ.1, hZ.2, ((HB0.out.trans (HB1.out.mono HB0.out.size)).setCell (by show w.heap.size ≤ w.heap.size + 1 + 1 + 1; omega) _).setCell (by show w.heap.size ≤ w.heap.size + 1 + 1 + 1; omega) _⟩
theorem edit_InsertCol.ok (l0_0 : List ByteArray) (l0_1 : List (List ByteArray)) (a1 : Int) (a2 : ByteArray) (l3 : List ByteArray) (hok : (okE l0_0 l0_1 && (decide (l3.length ≤ 90000) && decide (a2.size ≤ maxLen))) = true) (hck : checkT l0_0 l0_1 = 0) (hx : (xInsCol a1 l0_0.length l3.length l0_1.length) = 0) : okT (putL l0_0 a1.toNat a2) (outI (fun i l => putL l a1.toNat (l3.getD i ByteArray.empty)) l0_1 l0_1.length) = true := by
  rw [Bool.and_eq_true] at hok
  obtain ⟨hT, h1, h2⟩ := okE_parts hok.1
  have hs := okT_size hT
  rw [Bool.and_eq_true] at hok
  have hz := of_decide_eq_true hok.2.2
  refine okT_mk (by rw [len_putL]; omega) (by rw [outI_length]; omega) (fun s h => ?_)
  rcases mem_putL h with h | h
  · rw [h]; exact hz
  · exact hs s h
def edit_Project.f (l0_0 : List ByteArray) (l0_1 : List (List ByteArray)) (l1 : List Int) : Option (List ByteArray × List (List ByteArray) × Int) := if (okE l0_0 l0_1 && decide (l1.length ≤ 90000)) = true then some (madeT l0_0 l0_1 (xProj l1 l0_0.length) (projL l1 l0_0) (l0_1.map fun l => projL l1 l)) else none
theorem edit_Project.ok (l0_0 : List ByteArray) (l0_1 : List (List ByteArray)) (l1 : List Int) (hok : (okE l0_0 l0_1 && decide (l1.length ≤ 90000)) = true) (hck : checkT l0_0 l0_1 = 0) (hx : (xProj l1 l0_0.length) = 0) : okT (projL l1 l0_0) (l0_1.map fun l => projL l1 l) = true := by
  rw [Bool.and_eq_true] at hok
  obtain ⟨hT, h1, h2⟩ := okE_parts hok.1
  have hs := okT_size hT
  have hz := of_decide_eq_true hok.2
  refine okT_mk (by rw [projL_length]; omega) (by rw [List.length_map]; omega) (fun s h => ?_)
  obtain ⟨c, hc, rfl⟩ := List.mem_map.1 h
  have hin : ∀ c ∈ l1, 0 ≤ c ∧ c < (l0_0.length : Int) := by
    unfold xProj at hx
    split at hx
    · assumption
    · simp at hx
  have := hin c hc
  exact hs _ (getD_mem (by omega))
set_option maxRecDepth 100000 in
set_option maxHeartbeats 4000000 in
theorem edit_Project.calls (A0 : Option Addr) (c0 : Nat) (l0_0 : List ByteArray) (A1 : Option Addr) (c1 : Nat) (l0_1 : List (List ByteArray)) (Al1 : Option Addr) (cl1 : Nat) (l1 : List Int) (r1 : List ByteArray) (r2 : List (List ByteArray)) (r3 : Int) (w : World) (hr0 : Kd.C Kd.string w A0 l0_0.length l0_0) (hc0 : l0_0.length ≤ c0) (hr1 : Kd.C (Kd.slice 9 Kd.string) w A1 l0_1.length l0_1) (hc1 : l0_1.length ≤ c1) (hrl1 : Kd.C (Kd.int .i64) w Al1 l1.length l1) (hcl1 : l1.length ≤ cl1) (h : edit_Project.f l0_0 l0_1 l1 = some (r1, r2, r3)) :
    Calls Try.prog 19 #[.agg #[.slice A0 l0_0.length c0, .slice A1 l0_1.length c1], .slice Al1 l1.length cl1] w fun e w' => ∃ v0_ v1_ : Value, e = .returned (.tuple #[.agg #[v0_, v1_], .int .i64 r3]) ∧ Kd.R Kd.string 9 w' w.heap.size (fun _ => True) v0_ r1 ∧ Kd.S (Kd.slice 9 Kd.string) 22 w' w.heap.size (fun k_ => some k_ ≠ (v0_ : Value).ownBlock) v1_ r2 ∧ Below w.heap.size w w' := by
  have hmf : ∀ (fn : Fn) (first cap : Array Value) (w : World), (Instr.makeFunc fn first cap).run Try.prog w = .ok (.func fn first cap) w := fun _ _ _ _ => rfl
  unfold edit_Project.f at h
  split at h
  case isFalse => exact nomatch h
  rename_i hok
  have h1 := Option.some.inj h
  obtain ⟨hT0, hh0, hl0⟩ := okE_parts (Bool.and_eq_true_iff.1 hok).1
  obtain ⟨W0, hW0⟩ : ∃ W0, W0 = (((w.alloc (.cells #[.slice A0 l0_0.length c0, .slice A1 l0_1.length c1] 25)).alloc (.cells #[.slice Al1 l1.length cl1] 26)).alloc (.cells #[.slice none 0 0, .slice none 0 0] 25)) := ⟨_, rfl⟩
  have hb0 : Below w.heap.size w W0 := by rw [hW0]; exact below_alloc (below_alloc (below_alloc (Below.refl _ _) _) _) _
  have hx0 : W0.heap[w.heap.size]? = some (.cells #[.slice A0 l0_0.length c0, .slice A1 l0_1.length c1] 25) := by
    rw [hW0]
    have h := blk_new w (.cells #[.slice A0 l0_0.length c0, .slice A1 l0_1.length c1] 25)
    exact ((below_alloc (below_alloc (Below.refl _ (w.alloc (.cells #[.slice A0 l0_0.length c0, .slice A1 l0_1.length c1] 25))) _) _).block _ (by simp only [World.size_alloc]; omega)).trans h
  have hx1 : W0.heap[w.heap.size + 1]? = some (.cells #[.slice Al1 l1.length cl1] 26) := by
    rw [hW0]
    have h := blk_new (w.alloc (.cells #[.slice A0 l0_0.length c0, .slice A1 l0_1.length c1] 25)) (.cells #[.slice Al1 l1.length cl1] 26)
    rw [World.size_alloc] at h
    exact ((below_alloc (Below.refl _ ((w.alloc (.cells #[.slice A0 l0_0.length c0, .slice A1 l0_1.length c1] 25)).alloc (.cells #[.slice Al1 l1.length cl1] 26))) _).block _ (by simp only [World.size_alloc]; omega)).trans h
  have hx2 : W0.heap[w.heap.size + 1 + 1]? = some (.cells #[.slice none 0 0, .slice none 0 0] 25) := by
    rw [hW0]
    have h := blk_new ((w.alloc (.cells #[.slice A0 l0_0.length c0, .slice A1 l0_1.length c1] 25)).alloc (.cells #[.slice Al1 l1.length cl1] 26)) (.cells #[.slice none 0 0, .slice none 0 0] 25)
    rw [World.size_alloc, World.size_alloc] at h
    exact h
  have hM0 := made_calls 43 #[.pointer (some ⟨w.heap.size + 1, 0, none⟩), .pointer (some ⟨w.heap.size, 0, none⟩)] A0 c0 l0_0 A1 c1 l0_1 (xProj l1 l0_0.length) (projL l1 l0_0) (l0_1.map fun l => projL l1 l) W0 (Kd.C_below hr0 hb0) hc0 (Kd.C_below hr1 hb0) hc1 hT0 (edit_Project.ok l0_0 l0_1 l1 hok) (fun args W => enters_ Try.func43 (by kernel_rfl) rfl args W) (fun hck => how43 W0 _ _ A0 c0 l0_0 A1 c1 l0_1 ⟨hx0, Kd.C_below hr0 hb0, hc0, Kd.C_below hr1 hb0, by omega, by omega, rows_of_check hck⟩ Al1 cl1 l1 hx1 (Kd.C_below hrl1 hb0) (by have := of_decide_eq_true (Bool.and_eq_true_iff.1 hok).2; omega))
  rw [h1] at hM0
  have HM := Aside0.mk hM0
  have HB0 := Aside0.mk hb0
  have HZ0 := Aside0.mk hx2
  have HW0 := Aside0.mk hW0
  clear hM0 hb0 hW0 h h1 hok hT0 hh0 hl0 hr0 hr1 hx0 hx1 hx2 hrl1
  go_enter Try.func19, Try.ntmps19
  go_wp2_with (go_at_call 35; rw [← HW0.out]; refine HM.out.mono ?_; rintro e w1 ⟨v0, v1, rfl, hM, hb1⟩; obtain ⟨Av, cv, rfl, hcv, hCv⟩ := Kd.R_reads hM.1; obtain ⟨Ar, cr, rfl, hcr, hCr⟩ := Kd.S_reads hM.2; have HN := Aside0.mk hM; have HB1 := Aside0.mk hb1; have HZ1 := Aside0.mk ((hb1.block _ (lt_of_block HZ0.out)).trans HZ0.out); have hy0 := blk_cell HZ1.out 0; have hy1 := blk_cell HZ1.out 1; have hu0 := blk_frozen HZ1.out 0; have hu1 := blk_frozen HZ1.out 1; clear hM hb1 hCv hCr HM)
  have hf0 : ((w1.setCell ⟨w.heap.size + 1 + 1, 0, none⟩ (.slice Av r1.length cv)).setCell ⟨w.heap.size + 1 + 1, 1, none⟩ (.slice Ar r2.length cr)).heap[w.heap.size + 1 + 1]? = some (.cells #[.slice Av r1.length cv, .slice Ar r2.length cr] 25 (0, 0)) := heap_setCell_same _ _ 1 _ _ _ (heap_setCell_same _ _ 0 _ _ _ HZ1.out)
  have hc0 := blk_cell hf0 0
  have hc1 := blk_cell hf0 1
  refine bodyPost_ret (v := .tuple #[.agg #[.slice Av r1.length cv, .slice Ar r2.length cr], .int .i64 r3]) (by simp [results, Try.results19, go_sem, hc0, hc1]) rfl ?_
  have hlt := lt_of_block HZ0.out
  have hZ := ((HN.out.far (p := ⟨w.heap.size + 1 + 1, 0, none⟩) hlt (.slice Av r1.length cv)).far (p := ⟨w.heap.size + 1 + 1, 1, none⟩) hlt (.slice Ar r2.length cr)).lower HB0.out.size
  exact ⟨_, _, rfl, hZ.1, hZ.2, ((HB0.out.trans (HB1.out.mono HB0.out.size)).setCell (by show w.heap.size ≤ w.heap.size + 1 + 1; omega) _).setCell (by show w.heap.size ≤ w.heap.size + 1 + 1; omega) _⟩
end Go.Proofs.Ytaolakknkhggnaa.X
end
section
namespace Go.Proofs.Ytaolakknkhggnaa.X
open Go.RowKit Go.Maps Go.Shelf Go.Proofs.YtaolakknkhggnaaW.PrintWords Go.Proofs.YtaolakknkhggnaaW.PrintLast
set_option linter.unusedVariables false
theorem rd_eq {a b : List ByteArray} (hl : a.length = b.length) (h : ∀ j, j < a.length → rdOf ByteArray.empty a (j : Int) = rdOf ByteArray.empty b (j : Int)) : a = b := by
  refine List.ext_getElem hl fun i h1 h2 => ?_
  have := h i h1
  unfold rdOf at this
  rw [show ((i : Int)).toNat = i from rfl, List.getD_eq_getElem?_getD, List.getD_eq_getElem?_getD, List.getElem?_eq_getElem h1, List.getElem?_eq_getElem h2] at this
  exact this
theorem str_eq {x y : ByteArray} : x.toList = y.toList ↔ x = y := by
  rw [ByteArray.toList_eq, ByteArray.toList_eq]
  exact ⟨fun h => ByteArray.ext (Array.toList_inj.mp h), fun h => by rw [h]⟩
theorem bytes_ne {x y : ByteArray} (h : x ≠ y) : (x.toList == y.toList) = false := by
  rw [beq_eq_false_iff_ne]
  exact fun e => h (str_eq.1 e)
set_option maxRecDepth 100000 in
set_option maxHeartbeats 800000 in
theorem equal_calls (A0 : Option Addr) (c0 : Nat) (a : List ByteArray) (A1 : Option Addr) (c1 : Nat) (b : List ByteArray) (w : World) (hr0 : Kd.C Kd.string w A0 a.length a) (hr1 : Kd.C Kd.string w A1 b.length b) :
    Calls Try.prog 41 #[.slice A0 a.length c0, .slice A1 b.length c1] w fun e w' => e = .returned (.bool (decide (a = b))) ∧ Below w.heap.size w w' := by
  obtain ⟨r, hr⟩ : ∃ r : Bool, Aside0 (decide (a = b) = r) := ⟨_, ⟨rfl⟩⟩
  rw [hr.out]
  have ha := hr0.2.1
  have hb := hr1.2.1
  have H0 := Aside0.mk hr0
  have H1 := Aside0.mk hr1
  clear hr0 hr1
  by_cases hl : a.length = b.length
  · have hlI : (a.length : Int) = (b.length : Int) := by omega
    have HL := Aside0.mk hl
    go_enter Try.func41, Try.ntmps41
    go_wp2
    go_loopw [13] (fun vi wr => ∃ i : Nat, vi = .int .i64 i ∧ i ≤ a.length ∧ Aside0 (∀ j, j < i → rdOf ByteArray.empty a (j : Int) = rdOf ByteArray.empty b (j : Int)) ∧ Aside0 (Below w.heap.size w wr))
      (fun vi _ => a.length - (intOf vi).toNat)
    case atStart => exact ⟨0, rfl, Nat.zero_le _, ⟨fun j hj => by omega⟩, ⟨Below.refl _ _⟩⟩
    case round =>
      obtain ⟨i, rfl, hi, HE, HB⟩ := hrel
      by_cases hlt : i < a.length
      · obtain ⟨ad, eA, hx⟩ := strAtA (Kd.C_below H0.out HB.out) hlt
        obtain ⟨bd, eB, hy⟩ := strAtA (Kd.C_below H1.out HB.out) (show i < b.length by omega)
        cases eA
        cases eB
        have hiI : (i : Int) < (a.length : Int) := by omega
        have hiJ : (i : Int) < (b.length : Int) := by omega
        by_cases hxy : rdOf ByteArray.empty a (i : Int) = rdOf ByteArray.empty b (i : Int)
        · have HXY := Aside0.mk hxy
          rw [← hxy] at hy
          clear hxy
          generalize rdOf ByteArray.empty a (i : Int) = x at hx hy
          clear hl
          go_wp2
          go_quiet (fail)
          go_wp2
          go_roundw
          case rel =>
            refine ⟨i + 1, by go_num, by omega, ⟨fun j hj => ?_⟩, ⟨pw_below_drewN HB.out _⟩⟩
            rcases Nat.lt_or_ge j i with h | h
            · exact HE.out j h
            · obtain rfl : j = i := by omega
              exact HXY.out
          case measure => simp [intOf]; omega
        · have HN : Aside0 (¬ a = b) := ⟨fun e => hxy (by rw [e])⟩
          have hb1 := bytes_ne hxy
          generalize rdOf ByteArray.empty a (i : Int) = x at hx hxy hb1
          generalize rdOf ByteArray.empty b (i : Int) = y at hy hxy hb1
          clear hl hxy
          go_wp2
          go_quiet (fail)
          go_wp2
          go_ret
          exact ⟨by rw [← hr.out]; simp [HN.out], pw_below_drewN HB.out _⟩
      · obtain rfl : i = a.length := by omega
        have HEQ := Aside0.mk (rd_eq HL.out HE.out)
        clear hl
        go_wp2
        go_ret
        exact ⟨by rw [← hr.out]; simp [HEQ.out], HB.out⟩
  · have hlI : ¬ (a.length : Int) = (b.length : Int) := by omega
    have hlJ : ((a.length : Int) == (b.length : Int)) = false := by simp; omega
    go_enter Try.func41, Try.ntmps41
    go_wp2
    go_ret
    refine ⟨?_, Below.refl _ _⟩
    rw [← hr.out]
    have : ¬ a = b := fun e => hl (by rw [e])
    simp [this]
theorem rows_eq {a b : List (List ByteArray)} (hl : a.length = b.length) (h : ∀ j, j < a.length → a.getD j [] = b.getD j []) : a = b := by
  refine List.ext_getElem hl fun i h1 h2 => ?_
  have := h i h1
  rw [List.getD_eq_getElem?_getD, List.getD_eq_getElem?_getD, List.getElem?_eq_getElem h1, List.getElem?_eq_getElem h2] at this
  exact this
set_option maxRecDepth 100000 in
set_option maxHeartbeats 800000 in
theorem equalF_calls (A0 : Option Addr) (c0 : Nat) (a : List (List ByteArray)) (A1 : Option Addr) (c1 : Nat) (b : List (List ByteArray)) (w0 w : World) (hw : Below w0.heap.size w0 w) (hr0 : Kd.C (Kd.slice 9 Kd.string) w0 A0 a.length a) (hr1 : Kd.C (Kd.slice 9 Kd.string) w0 A1 b.length b) :
    Calls Try.prog 42 #[.slice A0 a.length c0, .slice A1 b.length c1, .func (.func 41) #[] #[]] w fun e w' => e = .returned (.bool (decide (a = b))) ∧ Below w.heap.size w w' := by
  obtain ⟨r, hr⟩ : ∃ r : Bool, Aside0 (decide (a = b) = r) := ⟨_, ⟨rfl⟩⟩
  rw [hr.out]
  have ha := hr0.2.1
  have hb := hr1.2.1
  have H0 := Aside0.mk (Kd.C_below hr0 hw)
  have H1 := Aside0.mk (Kd.C_below hr1 hw)
  clear hr0 hr1 hw
  by_cases hl : a.length = b.length
  · have hlI : (a.length : Int) = (b.length : Int) := by omega
    have HL := Aside0.mk hl
    go_enter Try.func42, Try.ntmps42
    go_wp2
    go_loopw [17] (fun vi wr => ∃ i : Nat, vi = .int .i64 i ∧ i ≤ a.length ∧ Aside0 (∀ j, j < i → a.getD j [] = b.getD j []) ∧ Aside0 (Below w.heap.size w wr))
      (fun vi _ => a.length - (intOf vi).toNat)
    case atStart => exact ⟨0, rfl, Nat.zero_le _, ⟨fun j hj => by omega⟩, ⟨Below.refl _ _⟩⟩
    case round =>
      obtain ⟨i, rfl, hi, HE, HB⟩ := hrel
      by_cases hlt : i < a.length
      · obtain ⟨ad, Ax, cx, eA, hx, hcx, hCx⟩ := rowAt (Kd.C_below H0.out HB.out) hlt
        obtain ⟨bd, Bx, dx, eB, hy, hdx, hCy⟩ := rowAt (Kd.C_below H1.out HB.out) (show i < b.length by omega)
        cases eA
        cases eB
        have hiI : (i : Int) < (a.length : Int) := by omega
        have hiJ : (i : Int) < (b.length : Int) := by omega
        have HK := Aside0.mk (equal_calls Ax cx (a.getD i []) Bx dx (b.getD i []) wr hCx hCy)
        clear hl hCx hCy
        by_cases hxy : a.getD i [] = b.getD i []
        · have HXY := Aside0.mk hxy
          have HD : Aside0 (decide (a.getD i [] = b.getD i []) = true) := ⟨decide_eq_true hxy⟩
          clear hxy
          generalize (a.getD i []).length = q at *
          generalize (b.getD i []).length = q' at *
          go_wp2_with (go_at_call 41; refine HK.out.mono ?_; rintro e w1 ⟨rfl, hb1⟩; rw [HD.out]; have HB1 := Aside0.mk (HB.out.trans (hb1.mono HB.out.size)); clear hb1)
          go_roundw
          case rel =>
            refine ⟨i + 1, by go_num, by omega, ⟨fun j hj => ?_⟩, HB1⟩
            rcases Nat.lt_or_ge j i with h | h
            · exact HE.out j h
            · obtain rfl : j = i := by omega
              exact HXY.out
          case measure => simp [intOf]; omega
        · have HN : Aside0 (¬ a = b) := ⟨fun e => hxy (by rw [e])⟩
          have HD : Aside0 (decide (a.getD i [] = b.getD i []) = false) := ⟨decide_eq_false hxy⟩
          clear hxy
          generalize (a.getD i []).length = q at *
          generalize (b.getD i []).length = q' at *
          go_wp2_with (go_at_call 41; refine HK.out.mono ?_; rintro e w1 ⟨rfl, hb1⟩; rw [HD.out]; have HB1 := Aside0.mk (HB.out.trans (hb1.mono HB.out.size)); clear hb1)
          go_ret
          exact ⟨by rw [← hr.out]; simp [HN.out], HB1.out⟩
      · obtain rfl : i = a.length := by omega
        have HEQ := Aside0.mk (rows_eq HL.out HE.out)
        clear hl
        go_wp2
        go_ret
        exact ⟨by rw [← hr.out]; simp [HEQ.out], HB.out⟩
  · have hlI : ¬ (a.length : Int) = (b.length : Int) := by omega
    have hlJ : ((a.length : Int) == (b.length : Int)) = false := by simp; omega
    go_enter Try.func42, Try.ntmps42
    go_wp2
    go_ret
    refine ⟨?_, Below.refl _ _⟩
    rw [← hr.out]
    have : ¬ a = b := fun e => hl (by rw [e])
    simp [this]
def table_Same.f (l0_0 : List ByteArray) (l0_1 : List (List ByteArray)) (l1_0 : List ByteArray) (l1_1 : List (List ByteArray)) : Option Bool := some (decide (l0_0 = l1_0) && decide (l0_1 = l1_1))
set_option maxRecDepth 100000 in
set_option maxHeartbeats 800000 in
theorem table_Same.calls (A0_0 : Option Addr) (c0_0 : Nat) (l0_0 : List ByteArray) (A0_1 : Option Addr) (c0_1 : Nat) (l0_1 : List (List ByteArray)) (A1_0 : Option Addr) (c1_0 : Nat) (l1_0 : List ByteArray) (A1_1 : Option Addr) (c1_1 : Nat) (l1_1 : List (List ByteArray)) (r : Bool) (w : World)
    (hr0_0 : Kd.C Kd.string w A0_0 l0_0.length l0_0) (hc0_0 : l0_0.length ≤ c0_0) (hr0_1 : Kd.C (Kd.slice 9 Kd.string) w A0_1 l0_1.length l0_1) (hc0_1 : l0_1.length ≤ c0_1)
    (hr1_0 : Kd.C Kd.string w A1_0 l1_0.length l1_0) (hc1_0 : l1_0.length ≤ c1_0) (hr1_1 : Kd.C (Kd.slice 9 Kd.string) w A1_1 l1_1.length l1_1) (hc1_1 : l1_1.length ≤ c1_1) (h : table_Same.f l0_0 l0_1 l1_0 l1_1 = some r) :
    Calls Try.prog 18 #[.agg #[.slice A0_0 l0_0.length c0_0, .slice A0_1 l0_1.length c0_1], .agg #[.slice A1_0 l1_0.length c1_0, .slice A1_1 l1_1.length c1_1]] w fun e w' => e = .returned (.bool r) ∧ Below w.heap.size w w' := by
  have hr : Aside0 ((decide (l0_0 = l1_0) && decide (l0_1 = l1_1)) = r) := ⟨Option.some.inj h⟩
  have HR := Aside0.mk (And.intro hr0_0 (And.intro hr0_1 (And.intro hr1_0 hr1_1)))
  obtain ⟨W, hW⟩ : ∃ W, Aside0 ((w.alloc (.cells #[.slice A0_0 l0_0.length c0_0, .slice A0_1 l0_1.length c0_1] 25 (0, 0))).alloc (.cells #[.slice A1_0 l1_0.length c1_0, .slice A1_1 l1_1.length c1_1] 25 (0, 0)) = W) := ⟨_, ⟨rfl⟩⟩
  have hB : Below w.heap.size w W := by rw [← hW.out]; exact below_alloc (below_alloc (Below.refl _ _) _) _
  have hT1 : W.heap[w.heap.size + 1]? = some (.cells #[.slice A1_0 l1_0.length c1_0, .slice A1_1 l1_1.length c1_1] 25 (0, 0)) := by
    rw [← hW.out]
    have h := blk_new (w.alloc (.cells #[.slice A0_0 l0_0.length c0_0, .slice A0_1 l0_1.length c0_1] 25 (0, 0))) (.cells #[.slice A1_0 l1_0.length c1_0, .slice A1_1 l1_1.length c1_1] 25 (0, 0))
    rw [World.size_alloc] at h
    exact h
  have hT0 : W.heap[w.heap.size]? = some (.cells #[.slice A0_0 l0_0.length c0_0, .slice A0_1 l0_1.length c0_1] 25 (0, 0)) := by
    rw [← hW.out]
    exact ((below_alloc (Below.refl _ (w.alloc _)) _).block _ (by simp)).trans (blk_new w _)
  have HB := Aside0.mk hB
  have HT := Aside0.mk (And.intro hT0 hT1)
  have HE := Aside0.mk (equal_calls A0_0 c0_0 l0_0 A1_0 c1_0 l1_0 W (Kd.C_below hr0_0 hB) (Kd.C_below hr1_0 hB))
  clear h hr0_0 hc0_0 hr0_1 hc0_1 hr1_0 hc1_0 hr1_1 hc1_1 hT0 hT1 hB
  go_enter Try.func18, Try.ntmps18
  by_cases h0 : l0_0 = l1_0
  · have HD := Aside0.mk (decide_eq_true h0)
    have HD0 := Aside0.mk h0
    clear h0
    go_wp2_with (first
      | (go_at_call 41; rw [hW.out]; refine HE.out.mono ?_; rintro e w1 ⟨rfl, hb⟩; rw [HD.out]; have HB1 := Aside0.mk (HB.out.trans (hb.mono HB.out.size)); have h00 := blk_cell ((hb.block _ (lt_of_block HT.out.1)).trans HT.out.1) 0; have h01 := blk_cell ((hb.block _ (lt_of_block HT.out.1)).trans HT.out.1) 1; have h10 := blk_cell ((hb.block _ (lt_of_block HT.out.2)).trans HT.out.2) 0; have h11 := blk_cell ((hb.block _ (lt_of_block HT.out.2)).trans HT.out.2) 1; clear hb)
      | (go_at_call 42; refine (equalF_calls A0_1 c0_1 l0_1 A1_1 c1_1 l1_1 w _ HB1.out HR.out.2.1 HR.out.2.2.2).mono ?_; rintro e w2 ⟨rfl, hb2⟩; have HB2 := Aside0.mk (HB1.out.trans (hb2.mono HB1.out.size)); clear hb2))
    go_ret
    exact ⟨by rw [← hr.out]; simp [HD0.out], HB2.out⟩
  · have HD := Aside0.mk (decide_eq_false h0)
    have HD0 := Aside0.mk h0
    clear h0
    go_wp2_with (first
      | (go_at_call 41; rw [hW.out]; refine HE.out.mono ?_; rintro e w1 ⟨rfl, hb⟩; rw [HD.out]; have HB1 := Aside0.mk (HB.out.trans (hb.mono HB.out.size)); clear hb))
    go_ret
    exact ⟨by rw [← hr.out]; simp [HD0.out], HB1.out⟩
end Go.Proofs.Ytaolakknkhggnaa.X
end
section
namespace Go.Proofs.Ytaolakknkhggnaa.X
open Go.RowKit Go.Maps Go.Proofs.YtaolakknkhggnaaW.PrintWords Go.Proofs.YtaolakknkhggnaaW.PrintLast Go.Proofs.YtaolakknkhggnaaW.PrintMore
set_option linter.unusedVariables false
abbrev hW : List ByteArray := [(⟨#[97]⟩ : ByteArray), (⟨#[98]⟩ : ByteArray)]
abbrev tR : List (List ByteArray) := [[(⟨#[49]⟩ : ByteArray), (⟨#[50]⟩ : ByteArray)]]
abbrev mH : List ByteArray := [(⟨#[98]⟩ : ByteArray), (⟨#[97]⟩ : ByteArray)]
abbrev dH : List ByteArray := [(⟨#[98]⟩ : ByteArray)]
abbrev dR : List (List ByteArray) := [[(⟨#[50]⟩ : ByteArray)]]
abbrev sH : List ByteArray := hW
abbrev sR : List (List ByteArray) := [[(⟨#[49]⟩ : ByteArray), (⟨#[57]⟩ : ByteArray)]]
theorem f_move : edit_MoveCol.f hW tR 0 1 = some (mH, [[(⟨#[50]⟩ : ByteArray), (⟨#[49]⟩ : ByteArray)]], 0) := by kernel_rfl
theorem f_del : edit_DeleteCol.f hW tR 0 = some (dH, dR, 0) := by kernel_rfl
theorem f_del2 : edit_DeleteCol.f dH dR 0 = some ([], [], 8) := by kernel_rfl
theorem f_ren : edit_RenameCol.f hW tR 0 (⟨#[98]⟩ : ByteArray) = some ([], [], 10) := by kernel_rfl
theorem f_ins : edit_InsertRow.f hW tR 0 [(⟨#[120]⟩ : ByteArray)] = some ([], [], 9) := by kernel_rfl
theorem f_set : edit_Set.f hW tR 0 1 (⟨#[57]⟩ : ByteArray) = some (sH, sR, 0) := by kernel_rfl
theorem f_proj : edit_Project.f hW tR [1] = some (dH, dR, 0) := by kernel_rfl
theorem row_m : tartanref03_Row.f 100 mH mH = some true := by kernel_rfl
theorem cell_s : table_Cell.f sH sR 0 1 = some (⟨#[57]⟩ : ByteArray) := by kernel_rfl
theorem rowW (A0 : Option Addr) (c0 : Nat) (l0 : List ByteArray) (A1 : Option Addr) (c1 : Nat) (w : World) (hr0 : Kd.C Kd.string w A0 l0.length l0) (hc0 : l0.length ≤ c0) (hr1 : Kd.C Kd.string w A1 l0.length l0) (hc1 : l0.length ≤ c1) (h : tartanref03_Row.f 100 l0 l0 = some true) :
    Calls Try.prog 28 #[.slice A0 l0.length c0, .slice A1 l0.length c1] w fun e w' => e = .returned (.bool true) ∧ Below w.heap.size w w' :=
  (tartanref03_Row.calls 100 A0 c0 l0 A1 c1 l0 true w hr0 hc0 hr1 hc1 h).mono (fun e w' h => ⟨h.1, h.2.below⟩)
theorem cellW (A0 : Option Addr) (c0 : Nat) (l0 : List ByteArray) (A1 : Option Addr) (c1 : Nat) (l1 : List (List ByteArray)) (a b : Int) (r : ByteArray) (w : World) (hr0 : Kd.C Kd.string w A0 l0.length l0) (hc0 : l0.length ≤ c0) (hr1 : Kd.C (Kd.slice 9 Kd.string) w A1 l1.length l1) (hc1 : l1.length ≤ c1) (h : table_Cell.f l0 l1 a b = some r) :
    Calls Try.prog 17 #[.agg #[.slice A0 l0.length c0, .slice A1 l1.length c1], .int .i64 a, .int .i64 b] w fun e w' => e = .returned (.string r) ∧ Below w.heap.size w w' :=
  table_Cell.calls A0 c0 l0 A1 c1 l1 a b r w hr0 hc0 hr1 hc1 h
theorem reads_of {K : FuncId} {args : Array Value} {w : World} {r1 : List ByteArray} {r2 : List (List ByteArray)} {r3 : Int} {n m : Nat} (h : Calls Try.prog K args w fun e w' => ∃ v0_ v1_ : Value, e = .returned (.tuple #[.agg #[v0_, v1_], .int .i64 r3]) ∧ Kd.R Kd.string 9 w' w.heap.size (fun _ => True) v0_ r1 ∧ Kd.S (Kd.slice 9 Kd.string) 22 w' w.heap.size (fun k_ => some k_ ≠ (v0_ : Value).ownBlock) v1_ r2 ∧ Below w.heap.size w w') (hn : r1.length = n) (hm : r2.length = m) :
    Calls Try.prog K args w fun e w' => ∃ (A : Option Addr) (c : Nat) (B : Option Addr) (d : Nat), e = .returned (.tuple #[.agg #[.slice A n c, .slice B m d], .int .i64 r3]) ∧ n ≤ c ∧ m ≤ d ∧ Kd.C Kd.string w' A n r1 ∧ Kd.C (Kd.slice 9 Kd.string) w' B m r2 ∧ Below w.heap.size w w' := by
  refine h.mono ?_
  rintro e w' ⟨v0, v1, rfl, hR, hS, hb⟩
  obtain ⟨A, c, rfl, hc, hC⟩ := Kd.R_reads hR
  obtain ⟨B, d, rfl, hd, hD⟩ := Kd.S_reads hS
  rw [hn] at hc hC ⊢
  rw [hm] at hd hD ⊢
  exact ⟨A, c, B, d, rfl, hc, hd, hC, hD, hb⟩
theorem blk_atk {W : World} {o : Obj} {k : Nat} (h : k = W.heap.size) : (W.alloc o).heap[k]? = some o := by subst h; exact blk_new W o
theorem C_oneI {W : World} {g : Nat} {t : TypeId} {i : Int} (h : W.heap[g]? = some (.cells #[.int .i64 i] t (0, 0))) : Kd.C (Kd.int .i64) W (some ⟨g, 0, none⟩) 1 [i] := by
  refine ⟨rfl, by decide, fun _ => ⟨_, rfl, fun j p hj => ?_⟩⟩
  have hj0 : j = 0 := by
    rcases j with _ | j
    · rfl
    · simp at hj
  subst hj0
  simp at hj
  subst hj
  refine ⟨[.int .i64 i], rfl, rfl, fun k u hu => ?_⟩
  rw [Nat.zero_mul, Nat.zero_add, addr_off]
  rcases k with _ | k
  · simp at hu; subst hu; exact blk_cell h 0
  · simp at hu
set_option maxRecDepth 100000 in
set_option maxHeartbeats 8000000 in
theorem works_calls (w : World) : Calls Try.prog 10 #[] w fun e w' => e = .returned (.bool true) ∧ Below w.heap.size w w' := by
  have HB := Aside0.mk (Below.refl w.heap.size w)
  have st0 : True := trivial
  go_enter Try.func10, Try.ntmps10
  go_wp2_with (first
    | (go_at_call 20; clear st0; refine name_world (fun x23 hx => ?_); have f1 : Aside0 (x23.heap[w.heap.size]? = some (.cells #[.string (⟨#[97]⟩ : ByteArray), .string (⟨#[98]⟩ : ByteArray)] 9 (0, 0))) := ⟨by rw [← hx]; exact (blk_alloc (blk_alloc (blk_alloc (blk_atk rfl) _) _) _)⟩; have f2 : Aside0 (x23.heap[w.heap.size + 1]? = some (.cells #[.string (⟨#[49]⟩ : ByteArray), .string (⟨#[50]⟩ : ByteArray)] 9 (0, 0))) := ⟨by rw [← hx]; exact (blk_alloc (blk_alloc (blk_atk (by simp only [World.size_alloc])) _) _)⟩; have f3 : Aside0 (x23.heap[w.heap.size + 1 + 1]? = some (.cells #[.slice (some ⟨w.heap.size + 1, 0, none⟩) 2 2] 22 (0, 0))) := ⟨by rw [← hx]; exact (blk_alloc (blk_atk (by simp only [World.size_alloc])) _)⟩; have f4 : Aside0 (x23.heap[w.heap.size + 1 + 1 + 1]? = some (.cells #[.slice (some ⟨w.heap.size, 0, none⟩) 2 2, .slice (some ⟨w.heap.size + 1 + 1, 0, none⟩) 1 1] 25 (0, 0))) := ⟨by rw [← hx]; exact (blk_atk (by simp only [World.size_alloc]))⟩; have HB2 : Aside0 (Below w.heap.size w x23) := ⟨by rw [← hx]; exact (below_alloc (below_alloc (below_alloc (below_alloc HB.out _) _) _) _)⟩; have HS : Aside0 (Below w.heap.size w x23) := ⟨by rw [← hx]; exact (below_alloc (below_alloc (below_alloc (below_alloc (Below.refl _ _) _) _) _) _)⟩; clear HB; have HB := Aside0.mk HB2.out; clear HB2 hx; refine (reads_of (edit_MoveCol.calls (some ⟨w.heap.size, 0, none⟩) 2 hW (some ⟨w.heap.size + 1 + 1, 0, none⟩) 1 tR 0 1 _ _ _ x23 (C_blk hW (by decide) f1.out) (Nat.le_refl _) (C_rows _ (by decide) (fun j r hj => match j, hj with | 0, hj => by simp at hj; subst hj; exact ⟨_, 2, blk_cell f3.out 0, Nat.le_refl _, C_blk _ (by decide) f2.out⟩ | j + 1, hj => by simp at hj)) (Nat.le_refl _) f_move) rfl rfl).mono ?_; rintro e w23 ⟨A23, c23, B23, d23, rfl, hc23, hd23, hC23, hD23, hd⟩; have f5 := Aside0.mk (blk_below f1.out hd); clear f1; have f6 := Aside0.mk (blk_below f2.out hd); clear f2; have f7 := Aside0.mk (blk_below f3.out hd); clear f3; have f8 := Aside0.mk (blk_below f4.out hd); clear f4; have HT := Aside0.mk (below_step HS.out hd); have HB2 := Aside0.mk (below_step HB.out hd); clear HB; have HB := Aside0.mk HB2.out; clear HB2 HS HT hd; have HC23 := Aside0.mk hC23; have HD23 := Aside0.mk hD23; clear hC23 hD23; have k9 : (w23).cell? ⟨w.heap.size + 1 + 1 + 1, 0, none⟩ = #[.slice (some ⟨w.heap.size, 0, none⟩) 2 2, .slice (some ⟨w.heap.size + 1 + 1, 0, none⟩) 1 1][0]? := blk_cell f8.out 0; have k10 : (w23).cell? ⟨w.heap.size + 1 + 1 + 1, 1, none⟩ = #[.slice (some ⟨w.heap.size, 0, none⟩) 2 2, .slice (some ⟨w.heap.size + 1 + 1, 0, none⟩) 1 1][1]? := blk_cell f8.out 1; have k11 : (w23.alloc (.cells #[.slice A23 2 c23, .slice B23 1 d23] 25 (0, 0))).cell? ⟨w.heap.size + 1 + 1 + 1, 0, none⟩ = #[.slice (some ⟨w.heap.size, 0, none⟩) 2 2, .slice (some ⟨w.heap.size + 1 + 1, 0, none⟩) 1 1][0]? := blk_cell (blk_alloc f8.out _) 0; have k12 : (w23.alloc (.cells #[.slice A23 2 c23, .slice B23 1 d23] 25 (0, 0))).cell? ⟨w.heap.size + 1 + 1 + 1, 1, none⟩ = #[.slice (some ⟨w.heap.size, 0, none⟩) 2 2, .slice (some ⟨w.heap.size + 1 + 1, 0, none⟩) 1 1][1]? := blk_cell (blk_alloc f8.out _) 1; have st1 : True := trivial)
    | (go_at_call 23; clear st1; refine name_world (fun x28 hx => ?_); have f13 : Aside0 (x28.heap[w.heap.size]? = some (.cells #[.string (⟨#[97]⟩ : ByteArray), .string (⟨#[98]⟩ : ByteArray)] 9 (0, 0))) := ⟨by rw [← hx]; exact (blk_alloc f5.out _)⟩; clear f5; have f14 : Aside0 (x28.heap[w.heap.size + 1]? = some (.cells #[.string (⟨#[49]⟩ : ByteArray), .string (⟨#[50]⟩ : ByteArray)] 9 (0, 0))) := ⟨by rw [← hx]; exact (blk_alloc f6.out _)⟩; clear f6; have f15 : Aside0 (x28.heap[w.heap.size + 1 + 1]? = some (.cells #[.slice (some ⟨w.heap.size + 1, 0, none⟩) 2 2] 22 (0, 0))) := ⟨by rw [← hx]; exact (blk_alloc f7.out _)⟩; clear f7; have f16 : Aside0 (x28.heap[w.heap.size + 1 + 1 + 1]? = some (.cells #[.slice (some ⟨w.heap.size, 0, none⟩) 2 2, .slice (some ⟨w.heap.size + 1 + 1, 0, none⟩) 1 1] 25 (0, 0))) := ⟨by rw [← hx]; exact (blk_alloc f8.out _)⟩; clear f8; have f17 : Aside0 (x28.heap[w23.heap.size]? = some (.cells #[.slice A23 2 c23, .slice B23 1 d23] 25 (0, 0))) := ⟨by rw [← hx]; exact (blk_atk rfl)⟩; have HB2 : Aside0 (Below w.heap.size w x28) := ⟨by rw [← hx]; exact (below_alloc HB.out _)⟩; have HS : Aside0 (Below w23.heap.size w23 x28) := ⟨by rw [← hx]; exact (below_alloc (Below.refl _ _) _)⟩; clear HB; have HB := Aside0.mk HB2.out; clear HB2 hx; have HC23' := Aside0.mk (Kd.C_below HC23.out HS.out); clear HC23; have HC23 := Aside0.mk HC23'.out; clear HC23'; have HD23' := Aside0.mk (Kd.C_below HD23.out HS.out); clear HD23; have HD23 := Aside0.mk HD23'.out; clear HD23'; refine (reads_of (edit_DeleteCol.calls (some ⟨w.heap.size, 0, none⟩) 2 hW (some ⟨w.heap.size + 1 + 1, 0, none⟩) 1 tR 0 _ _ _ x28 (C_blk hW (by decide) f13.out) (Nat.le_refl _) (C_rows _ (by decide) (fun j r hj => match j, hj with | 0, hj => by simp at hj; subst hj; exact ⟨_, 2, blk_cell f15.out 0, Nat.le_refl _, C_blk _ (by decide) f14.out⟩ | j + 1, hj => by simp at hj)) (Nat.le_refl _) f_del) rfl rfl).mono ?_; rintro e w28 ⟨A28, c28, B28, d28, rfl, hc28, hd28, hC28, hD28, hd⟩; have f18 := Aside0.mk (blk_below f13.out hd); clear f13; have f19 := Aside0.mk (blk_below f14.out hd); clear f14; have f20 := Aside0.mk (blk_below f15.out hd); clear f15; have f21 := Aside0.mk (blk_below f16.out hd); clear f16; have f22 := Aside0.mk (blk_below f17.out hd); clear f17; have HC23' := Aside0.mk (Kd.C_below HC23.out hd); clear HC23; have HC23 := Aside0.mk HC23'.out; clear HC23'; have HD23' := Aside0.mk (Kd.C_below HD23.out hd); clear HD23; have HD23 := Aside0.mk HD23'.out; clear HD23'; have HT := Aside0.mk (below_step HS.out hd); have HB2 := Aside0.mk (below_step HB.out hd); clear HB; have HB := Aside0.mk HB2.out; clear HB2 HS HT hd; have HC28 := Aside0.mk hC28; have HD28 := Aside0.mk hD28; clear hC28 hD28; have st2 : True := trivial)
    | (go_at_call 23; clear st2; refine name_world (fun x33 hx => ?_); have f23 : Aside0 (x33.heap[w.heap.size]? = some (.cells #[.string (⟨#[97]⟩ : ByteArray), .string (⟨#[98]⟩ : ByteArray)] 9 (0, 0))) := ⟨by rw [← hx]; exact (blk_alloc f18.out _)⟩; clear f18; have f24 : Aside0 (x33.heap[w.heap.size + 1]? = some (.cells #[.string (⟨#[49]⟩ : ByteArray), .string (⟨#[50]⟩ : ByteArray)] 9 (0, 0))) := ⟨by rw [← hx]; exact (blk_alloc f19.out _)⟩; clear f19; have f25 : Aside0 (x33.heap[w.heap.size + 1 + 1]? = some (.cells #[.slice (some ⟨w.heap.size + 1, 0, none⟩) 2 2] 22 (0, 0))) := ⟨by rw [← hx]; exact (blk_alloc f20.out _)⟩; clear f20; have f26 : Aside0 (x33.heap[w.heap.size + 1 + 1 + 1]? = some (.cells #[.slice (some ⟨w.heap.size, 0, none⟩) 2 2, .slice (some ⟨w.heap.size + 1 + 1, 0, none⟩) 1 1] 25 (0, 0))) := ⟨by rw [← hx]; exact (blk_alloc f21.out _)⟩; clear f21; have f27 : Aside0 (x33.heap[w23.heap.size]? = some (.cells #[.slice A23 2 c23, .slice B23 1 d23] 25 (0, 0))) := ⟨by rw [← hx]; exact (blk_alloc f22.out _)⟩; clear f22; have f28 : Aside0 (x33.heap[w28.heap.size]? = some (.cells #[.slice A28 1 c28, .slice B28 1 d28] 25 (0, 0))) := ⟨by rw [← hx]; exact (blk_atk rfl)⟩; have HB2 : Aside0 (Below w.heap.size w x33) := ⟨by rw [← hx]; exact (below_alloc HB.out _)⟩; have HS : Aside0 (Below w28.heap.size w28 x33) := ⟨by rw [← hx]; exact (below_alloc (Below.refl _ _) _)⟩; clear HB; have HB := Aside0.mk HB2.out; clear HB2 hx; have HC23' := Aside0.mk (Kd.C_below HC23.out HS.out); clear HC23; have HC23 := Aside0.mk HC23'.out; clear HC23'; have HD23' := Aside0.mk (Kd.C_below HD23.out HS.out); clear HD23; have HD23 := Aside0.mk HD23'.out; clear HD23'; have HC28' := Aside0.mk (Kd.C_below HC28.out HS.out); clear HC28; have HC28 := Aside0.mk HC28'.out; clear HC28'; have HD28' := Aside0.mk (Kd.C_below HD28.out HS.out); clear HD28; have HD28 := Aside0.mk HD28'.out; clear HD28'; refine (reads_of (edit_DeleteCol.calls A28 c28 dH B28 d28 dR 0 _ _ _ x33 HC28.out hc28 HD28.out hd28 f_del2) rfl rfl).mono ?_; rintro e w33 ⟨A33, c33, B33, d33, rfl, hc33, hd33, hC33, hD33, hd⟩; have f29 := Aside0.mk (blk_below f23.out hd); clear f23; have f30 := Aside0.mk (blk_below f24.out hd); clear f24; have f31 := Aside0.mk (blk_below f25.out hd); clear f25; have f32 := Aside0.mk (blk_below f26.out hd); clear f26; have f33 := Aside0.mk (blk_below f27.out hd); clear f27; have f34 := Aside0.mk (blk_below f28.out hd); clear f28; have HC23' := Aside0.mk (Kd.C_below HC23.out hd); clear HC23; have HC23 := Aside0.mk HC23'.out; clear HC23'; have HD23' := Aside0.mk (Kd.C_below HD23.out hd); clear HD23; have HD23 := Aside0.mk HD23'.out; clear HD23'; have HC28' := Aside0.mk (Kd.C_below HC28.out hd); clear HC28; have HC28 := Aside0.mk HC28'.out; clear HC28'; have HD28' := Aside0.mk (Kd.C_below HD28.out hd); clear HD28; have HD28 := Aside0.mk HD28'.out; clear HD28'; have HT := Aside0.mk (below_step HS.out hd); have HB2 := Aside0.mk (below_step HB.out hd); clear HB; have HB := Aside0.mk HB2.out; clear HB2 HS HT hd; have HC33 := Aside0.mk hC33; have HD33 := Aside0.mk hD33; clear hC33 hD33; clear HC33 HD33; have k35 : (w33).cell? ⟨w.heap.size + 1 + 1 + 1, 0, none⟩ = #[.slice (some ⟨w.heap.size, 0, none⟩) 2 2, .slice (some ⟨w.heap.size + 1 + 1, 0, none⟩) 1 1][0]? := blk_cell f32.out 0; have k36 : (w33).cell? ⟨w.heap.size + 1 + 1 + 1, 1, none⟩ = #[.slice (some ⟨w.heap.size, 0, none⟩) 2 2, .slice (some ⟨w.heap.size + 1 + 1, 0, none⟩) 1 1][1]? := blk_cell f32.out 1; have k37 : (w33.alloc (.cells #[.slice A33 0 c33, .slice B33 0 d33] 25 (0, 0))).cell? ⟨w.heap.size + 1 + 1 + 1, 0, none⟩ = #[.slice (some ⟨w.heap.size, 0, none⟩) 2 2, .slice (some ⟨w.heap.size + 1 + 1, 0, none⟩) 1 1][0]? := blk_cell (blk_alloc f32.out _) 0; have k38 : (w33.alloc (.cells #[.slice A33 0 c33, .slice B33 0 d33] 25 (0, 0))).cell? ⟨w.heap.size + 1 + 1 + 1, 1, none⟩ = #[.slice (some ⟨w.heap.size, 0, none⟩) 2 2, .slice (some ⟨w.heap.size + 1 + 1, 0, none⟩) 1 1][1]? := blk_cell (blk_alloc f32.out _) 1; have st3 : True := trivial)
    | (go_at_call 27; clear st3; refine name_world (fun x38 hx => ?_); have f39 : Aside0 (x38.heap[w.heap.size]? = some (.cells #[.string (⟨#[97]⟩ : ByteArray), .string (⟨#[98]⟩ : ByteArray)] 9 (0, 0))) := ⟨by rw [← hx]; exact (blk_alloc f29.out _)⟩; clear f29; have f40 : Aside0 (x38.heap[w.heap.size + 1]? = some (.cells #[.string (⟨#[49]⟩ : ByteArray), .string (⟨#[50]⟩ : ByteArray)] 9 (0, 0))) := ⟨by rw [← hx]; exact (blk_alloc f30.out _)⟩; clear f30; have f41 : Aside0 (x38.heap[w.heap.size + 1 + 1]? = some (.cells #[.slice (some ⟨w.heap.size + 1, 0, none⟩) 2 2] 22 (0, 0))) := ⟨by rw [← hx]; exact (blk_alloc f31.out _)⟩; clear f31; have f42 : Aside0 (x38.heap[w.heap.size + 1 + 1 + 1]? = some (.cells #[.slice (some ⟨w.heap.size, 0, none⟩) 2 2, .slice (some ⟨w.heap.size + 1 + 1, 0, none⟩) 1 1] 25 (0, 0))) := ⟨by rw [← hx]; exact (blk_alloc f32.out _)⟩; clear f32; have f43 : Aside0 (x38.heap[w23.heap.size]? = some (.cells #[.slice A23 2 c23, .slice B23 1 d23] 25 (0, 0))) := ⟨by rw [← hx]; exact (blk_alloc f33.out _)⟩; clear f33; have f44 : Aside0 (x38.heap[w28.heap.size]? = some (.cells #[.slice A28 1 c28, .slice B28 1 d28] 25 (0, 0))) := ⟨by rw [← hx]; exact (blk_alloc f34.out _)⟩; clear f34; have f45 : Aside0 (x38.heap[w33.heap.size]? = some (.cells #[.slice A33 0 c33, .slice B33 0 d33] 25 (0, 0))) := ⟨by rw [← hx]; exact (blk_atk rfl)⟩; have HB2 : Aside0 (Below w.heap.size w x38) := ⟨by rw [← hx]; exact (below_alloc HB.out _)⟩; have HS : Aside0 (Below w33.heap.size w33 x38) := ⟨by rw [← hx]; exact (below_alloc (Below.refl _ _) _)⟩; clear HB; have HB := Aside0.mk HB2.out; clear HB2 hx; have HC23' := Aside0.mk (Kd.C_below HC23.out HS.out); clear HC23; have HC23 := Aside0.mk HC23'.out; clear HC23'; have HD23' := Aside0.mk (Kd.C_below HD23.out HS.out); clear HD23; have HD23 := Aside0.mk HD23'.out; clear HD23'; have HC28' := Aside0.mk (Kd.C_below HC28.out HS.out); clear HC28; have HC28 := Aside0.mk HC28'.out; clear HC28'; have HD28' := Aside0.mk (Kd.C_below HD28.out HS.out); clear HD28; have HD28 := Aside0.mk HD28'.out; clear HD28'; refine (reads_of (edit_RenameCol.calls (some ⟨w.heap.size, 0, none⟩) 2 hW (some ⟨w.heap.size + 1 + 1, 0, none⟩) 1 tR 0 (⟨#[98]⟩ : ByteArray) _ _ _ x38 (C_blk hW (by decide) f39.out) (Nat.le_refl _) (C_rows _ (by decide) (fun j r hj => match j, hj with | 0, hj => by simp at hj; subst hj; exact ⟨_, 2, blk_cell f41.out 0, Nat.le_refl _, C_blk _ (by decide) f40.out⟩ | j + 1, hj => by simp at hj)) (Nat.le_refl _) f_ren) rfl rfl).mono ?_; rintro e w38 ⟨A38, c38, B38, d38, rfl, hc38, hd38, hC38, hD38, hd⟩; have f46 := Aside0.mk (blk_below f39.out hd); clear f39; have f47 := Aside0.mk (blk_below f40.out hd); clear f40; have f48 := Aside0.mk (blk_below f41.out hd); clear f41; have f49 := Aside0.mk (blk_below f42.out hd); clear f42; have f50 := Aside0.mk (blk_below f43.out hd); clear f43; have f51 := Aside0.mk (blk_below f44.out hd); clear f44; have f52 := Aside0.mk (blk_below f45.out hd); clear f45; have HC23' := Aside0.mk (Kd.C_below HC23.out hd); clear HC23; have HC23 := Aside0.mk HC23'.out; clear HC23'; have HD23' := Aside0.mk (Kd.C_below HD23.out hd); clear HD23; have HD23 := Aside0.mk HD23'.out; clear HD23'; have HC28' := Aside0.mk (Kd.C_below HC28.out hd); clear HC28; have HC28 := Aside0.mk HC28'.out; clear HC28'; have HD28' := Aside0.mk (Kd.C_below HD28.out hd); clear HD28; have HD28 := Aside0.mk HD28'.out; clear HD28'; have HT := Aside0.mk (below_step HS.out hd); have HB2 := Aside0.mk (below_step HB.out hd); clear HB; have HB := Aside0.mk HB2.out; clear HB2 HS HT hd; have HC38 := Aside0.mk hC38; have HD38 := Aside0.mk hD38; clear hC38 hD38; clear HC38 HD38; have k53 : (w38).cell? ⟨w.heap.size + 1 + 1 + 1, 0, none⟩ = #[.slice (some ⟨w.heap.size, 0, none⟩) 2 2, .slice (some ⟨w.heap.size + 1 + 1, 0, none⟩) 1 1][0]? := blk_cell f49.out 0; have k54 : (w38).cell? ⟨w.heap.size + 1 + 1 + 1, 1, none⟩ = #[.slice (some ⟨w.heap.size, 0, none⟩) 2 2, .slice (some ⟨w.heap.size + 1 + 1, 0, none⟩) 1 1][1]? := blk_cell f49.out 1; have k55 : (w38.alloc (.cells #[.slice A38 0 c38, .slice B38 0 d38] 25 (0, 0))).cell? ⟨w.heap.size + 1 + 1 + 1, 0, none⟩ = #[.slice (some ⟨w.heap.size, 0, none⟩) 2 2, .slice (some ⟨w.heap.size + 1 + 1, 0, none⟩) 1 1][0]? := blk_cell (blk_alloc f49.out _) 0; have k56 : (w38.alloc (.cells #[.slice A38 0 c38, .slice B38 0 d38] 25 (0, 0))).cell? ⟨w.heap.size + 1 + 1 + 1, 1, none⟩ = #[.slice (some ⟨w.heap.size, 0, none⟩) 2 2, .slice (some ⟨w.heap.size + 1 + 1, 0, none⟩) 1 1][1]? := blk_cell (blk_alloc f49.out _) 1; have st4 : True := trivial)
    | (go_at_call 25; clear st4; refine name_world (fun x44 hx => ?_); have f57 : Aside0 (x44.heap[w.heap.size]? = some (.cells #[.string (⟨#[97]⟩ : ByteArray), .string (⟨#[98]⟩ : ByteArray)] 9 (0, 0))) := ⟨by rw [← hx]; exact (blk_alloc (blk_alloc f46.out _) _)⟩; clear f46; have f58 : Aside0 (x44.heap[w.heap.size + 1]? = some (.cells #[.string (⟨#[49]⟩ : ByteArray), .string (⟨#[50]⟩ : ByteArray)] 9 (0, 0))) := ⟨by rw [← hx]; exact (blk_alloc (blk_alloc f47.out _) _)⟩; clear f47; have f59 : Aside0 (x44.heap[w.heap.size + 1 + 1]? = some (.cells #[.slice (some ⟨w.heap.size + 1, 0, none⟩) 2 2] 22 (0, 0))) := ⟨by rw [← hx]; exact (blk_alloc (blk_alloc f48.out _) _)⟩; clear f48; have f60 : Aside0 (x44.heap[w.heap.size + 1 + 1 + 1]? = some (.cells #[.slice (some ⟨w.heap.size, 0, none⟩) 2 2, .slice (some ⟨w.heap.size + 1 + 1, 0, none⟩) 1 1] 25 (0, 0))) := ⟨by rw [← hx]; exact (blk_alloc (blk_alloc f49.out _) _)⟩; clear f49; have f61 : Aside0 (x44.heap[w23.heap.size]? = some (.cells #[.slice A23 2 c23, .slice B23 1 d23] 25 (0, 0))) := ⟨by rw [← hx]; exact (blk_alloc (blk_alloc f50.out _) _)⟩; clear f50; have f62 : Aside0 (x44.heap[w28.heap.size]? = some (.cells #[.slice A28 1 c28, .slice B28 1 d28] 25 (0, 0))) := ⟨by rw [← hx]; exact (blk_alloc (blk_alloc f51.out _) _)⟩; clear f51; have f63 : Aside0 (x44.heap[w33.heap.size]? = some (.cells #[.slice A33 0 c33, .slice B33 0 d33] 25 (0, 0))) := ⟨by rw [← hx]; exact (blk_alloc (blk_alloc f52.out _) _)⟩; clear f52; have f64 : Aside0 (x44.heap[w38.heap.size]? = some (.cells #[.slice A38 0 c38, .slice B38 0 d38] 25 (0, 0))) := ⟨by rw [← hx]; exact (blk_alloc (blk_atk rfl) _)⟩; have f65 : Aside0 (x44.heap[w38.heap.size + 1]? = some (.cells #[.string (⟨#[120]⟩ : ByteArray)] 9 (0, 0))) := ⟨by rw [← hx]; exact (blk_atk (by simp only [World.size_alloc]))⟩; have HB2 : Aside0 (Below w.heap.size w x44) := ⟨by rw [← hx]; exact (below_alloc (below_alloc HB.out _) _)⟩; have HS : Aside0 (Below w38.heap.size w38 x44) := ⟨by rw [← hx]; exact (below_alloc (below_alloc (Below.refl _ _) _) _)⟩; clear HB; have HB := Aside0.mk HB2.out; clear HB2 hx; have HC23' := Aside0.mk (Kd.C_below HC23.out HS.out); clear HC23; have HC23 := Aside0.mk HC23'.out; clear HC23'; have HD23' := Aside0.mk (Kd.C_below HD23.out HS.out); clear HD23; have HD23 := Aside0.mk HD23'.out; clear HD23'; have HC28' := Aside0.mk (Kd.C_below HC28.out HS.out); clear HC28; have HC28 := Aside0.mk HC28'.out; clear HC28'; have HD28' := Aside0.mk (Kd.C_below HD28.out HS.out); clear HD28; have HD28 := Aside0.mk HD28'.out; clear HD28'; refine (reads_of (edit_InsertRow.calls (some ⟨w.heap.size, 0, none⟩) 2 hW (some ⟨w.heap.size + 1 + 1, 0, none⟩) 1 tR 0 (some ⟨w38.heap.size + 1, 0, none⟩) 1 [(⟨#[120]⟩ : ByteArray)] _ _ _ x44 (C_blk hW (by decide) f57.out) (Nat.le_refl _) (C_rows _ (by decide) (fun j r hj => match j, hj with | 0, hj => by simp at hj; subst hj; exact ⟨_, 2, blk_cell f59.out 0, Nat.le_refl _, C_blk _ (by decide) f58.out⟩ | j + 1, hj => by simp at hj)) (Nat.le_refl _) (C_blk [(⟨#[120]⟩ : ByteArray)] (by decide) f65.out) (Nat.le_refl _) f_ins) rfl rfl).mono ?_; rintro e w44 ⟨A44, c44, B44, d44, rfl, hc44, hd44, hC44, hD44, hd⟩; have f66 := Aside0.mk (blk_below f57.out hd); clear f57; have f67 := Aside0.mk (blk_below f58.out hd); clear f58; have f68 := Aside0.mk (blk_below f59.out hd); clear f59; have f69 := Aside0.mk (blk_below f60.out hd); clear f60; have f70 := Aside0.mk (blk_below f61.out hd); clear f61; have f71 := Aside0.mk (blk_below f62.out hd); clear f62; have f72 := Aside0.mk (blk_below f63.out hd); clear f63; have f73 := Aside0.mk (blk_below f64.out hd); clear f64; have f74 := Aside0.mk (blk_below f65.out hd); clear f65; have HC23' := Aside0.mk (Kd.C_below HC23.out hd); clear HC23; have HC23 := Aside0.mk HC23'.out; clear HC23'; have HD23' := Aside0.mk (Kd.C_below HD23.out hd); clear HD23; have HD23 := Aside0.mk HD23'.out; clear HD23'; have HC28' := Aside0.mk (Kd.C_below HC28.out hd); clear HC28; have HC28 := Aside0.mk HC28'.out; clear HC28'; have HD28' := Aside0.mk (Kd.C_below HD28.out hd); clear HD28; have HD28 := Aside0.mk HD28'.out; clear HD28'; have HT := Aside0.mk (below_step HS.out hd); have HB2 := Aside0.mk (below_step HB.out hd); clear HB; have HB := Aside0.mk HB2.out; clear HB2 HS HT hd; have HC44 := Aside0.mk hC44; have HD44 := Aside0.mk hD44; clear hC44 hD44; clear HC44 HD44; have k75 : (w44).cell? ⟨w.heap.size + 1 + 1 + 1, 0, none⟩ = #[.slice (some ⟨w.heap.size, 0, none⟩) 2 2, .slice (some ⟨w.heap.size + 1 + 1, 0, none⟩) 1 1][0]? := blk_cell f69.out 0; have k76 : (w44).cell? ⟨w.heap.size + 1 + 1 + 1, 1, none⟩ = #[.slice (some ⟨w.heap.size, 0, none⟩) 2 2, .slice (some ⟨w.heap.size + 1 + 1, 0, none⟩) 1 1][1]? := blk_cell f69.out 1; have k77 : (w44.alloc (.cells #[.slice A44 0 c44, .slice B44 0 d44] 25 (0, 0))).cell? ⟨w.heap.size + 1 + 1 + 1, 0, none⟩ = #[.slice (some ⟨w.heap.size, 0, none⟩) 2 2, .slice (some ⟨w.heap.size + 1 + 1, 0, none⟩) 1 1][0]? := blk_cell (blk_alloc f69.out _) 0; have k78 : (w44.alloc (.cells #[.slice A44 0 c44, .slice B44 0 d44] 25 (0, 0))).cell? ⟨w.heap.size + 1 + 1 + 1, 1, none⟩ = #[.slice (some ⟨w.heap.size, 0, none⟩) 2 2, .slice (some ⟨w.heap.size + 1 + 1, 0, none⟩) 1 1][1]? := blk_cell (blk_alloc f69.out _) 1; have st5 : True := trivial)
    | (go_at_call 16; clear st5; refine name_world (fun x49 hx => ?_); have f79 : Aside0 (x49.heap[w.heap.size]? = some (.cells #[.string (⟨#[97]⟩ : ByteArray), .string (⟨#[98]⟩ : ByteArray)] 9 (0, 0))) := ⟨by rw [← hx]; exact (blk_alloc f66.out _)⟩; clear f66; have f80 : Aside0 (x49.heap[w.heap.size + 1]? = some (.cells #[.string (⟨#[49]⟩ : ByteArray), .string (⟨#[50]⟩ : ByteArray)] 9 (0, 0))) := ⟨by rw [← hx]; exact (blk_alloc f67.out _)⟩; clear f67; have f81 : Aside0 (x49.heap[w.heap.size + 1 + 1]? = some (.cells #[.slice (some ⟨w.heap.size + 1, 0, none⟩) 2 2] 22 (0, 0))) := ⟨by rw [← hx]; exact (blk_alloc f68.out _)⟩; clear f68; have f82 : Aside0 (x49.heap[w.heap.size + 1 + 1 + 1]? = some (.cells #[.slice (some ⟨w.heap.size, 0, none⟩) 2 2, .slice (some ⟨w.heap.size + 1 + 1, 0, none⟩) 1 1] 25 (0, 0))) := ⟨by rw [← hx]; exact (blk_alloc f69.out _)⟩; clear f69; have f83 : Aside0 (x49.heap[w23.heap.size]? = some (.cells #[.slice A23 2 c23, .slice B23 1 d23] 25 (0, 0))) := ⟨by rw [← hx]; exact (blk_alloc f70.out _)⟩; clear f70; have f84 : Aside0 (x49.heap[w28.heap.size]? = some (.cells #[.slice A28 1 c28, .slice B28 1 d28] 25 (0, 0))) := ⟨by rw [← hx]; exact (blk_alloc f71.out _)⟩; clear f71; have f85 : Aside0 (x49.heap[w33.heap.size]? = some (.cells #[.slice A33 0 c33, .slice B33 0 d33] 25 (0, 0))) := ⟨by rw [← hx]; exact (blk_alloc f72.out _)⟩; clear f72; have f86 : Aside0 (x49.heap[w38.heap.size]? = some (.cells #[.slice A38 0 c38, .slice B38 0 d38] 25 (0, 0))) := ⟨by rw [← hx]; exact (blk_alloc f73.out _)⟩; clear f73; have f87 : Aside0 (x49.heap[w38.heap.size + 1]? = some (.cells #[.string (⟨#[120]⟩ : ByteArray)] 9 (0, 0))) := ⟨by rw [← hx]; exact (blk_alloc f74.out _)⟩; clear f74; have f88 : Aside0 (x49.heap[w44.heap.size]? = some (.cells #[.slice A44 0 c44, .slice B44 0 d44] 25 (0, 0))) := ⟨by rw [← hx]; exact (blk_atk rfl)⟩; have HB2 : Aside0 (Below w.heap.size w x49) := ⟨by rw [← hx]; exact (below_alloc HB.out _)⟩; have HS : Aside0 (Below w44.heap.size w44 x49) := ⟨by rw [← hx]; exact (below_alloc (Below.refl _ _) _)⟩; clear HB; have HB := Aside0.mk HB2.out; clear HB2 hx; have HC23' := Aside0.mk (Kd.C_below HC23.out HS.out); clear HC23; have HC23 := Aside0.mk HC23'.out; clear HC23'; have HD23' := Aside0.mk (Kd.C_below HD23.out HS.out); clear HD23; have HD23 := Aside0.mk HD23'.out; clear HD23'; have HC28' := Aside0.mk (Kd.C_below HC28.out HS.out); clear HC28; have HC28 := Aside0.mk HC28'.out; clear HC28'; have HD28' := Aside0.mk (Kd.C_below HD28.out HS.out); clear HD28; have HD28 := Aside0.mk HD28'.out; clear HD28'; refine (reads_of (edit_Set.calls (some ⟨w.heap.size, 0, none⟩) 2 hW (some ⟨w.heap.size + 1 + 1, 0, none⟩) 1 tR 0 1 (⟨#[57]⟩ : ByteArray) _ _ _ x49 (C_blk hW (by decide) f79.out) (Nat.le_refl _) (C_rows _ (by decide) (fun j r hj => match j, hj with | 0, hj => by simp at hj; subst hj; exact ⟨_, 2, blk_cell f81.out 0, Nat.le_refl _, C_blk _ (by decide) f80.out⟩ | j + 1, hj => by simp at hj)) (Nat.le_refl _) f_set) rfl rfl).mono ?_; rintro e w49 ⟨A49, c49, B49, d49, rfl, hc49, hd49, hC49, hD49, hd⟩; have f89 := Aside0.mk (blk_below f79.out hd); clear f79; have f90 := Aside0.mk (blk_below f80.out hd); clear f80; have f91 := Aside0.mk (blk_below f81.out hd); clear f81; have f92 := Aside0.mk (blk_below f82.out hd); clear f82; have f93 := Aside0.mk (blk_below f83.out hd); clear f83; have f94 := Aside0.mk (blk_below f84.out hd); clear f84; have f95 := Aside0.mk (blk_below f85.out hd); clear f85; have f96 := Aside0.mk (blk_below f86.out hd); clear f86; have f97 := Aside0.mk (blk_below f87.out hd); clear f87; have f98 := Aside0.mk (blk_below f88.out hd); clear f88; have HC23' := Aside0.mk (Kd.C_below HC23.out hd); clear HC23; have HC23 := Aside0.mk HC23'.out; clear HC23'; have HD23' := Aside0.mk (Kd.C_below HD23.out hd); clear HD23; have HD23 := Aside0.mk HD23'.out; clear HD23'; have HC28' := Aside0.mk (Kd.C_below HC28.out hd); clear HC28; have HC28 := Aside0.mk HC28'.out; clear HC28'; have HD28' := Aside0.mk (Kd.C_below HD28.out hd); clear HD28; have HD28 := Aside0.mk HD28'.out; clear HD28'; have HT := Aside0.mk (below_step HS.out hd); have HB2 := Aside0.mk (below_step HB.out hd); clear HB; have HB := Aside0.mk HB2.out; clear HB2 HS HT hd; have HC49 := Aside0.mk hC49; have HD49 := Aside0.mk hD49; clear hC49 hD49; have k99 : (w49).cell? ⟨w.heap.size + 1 + 1 + 1, 0, none⟩ = #[.slice (some ⟨w.heap.size, 0, none⟩) 2 2, .slice (some ⟨w.heap.size + 1 + 1, 0, none⟩) 1 1][0]? := blk_cell f92.out 0; have k100 : (w49).cell? ⟨w.heap.size + 1 + 1 + 1, 1, none⟩ = #[.slice (some ⟨w.heap.size, 0, none⟩) 2 2, .slice (some ⟨w.heap.size + 1 + 1, 0, none⟩) 1 1][1]? := blk_cell f92.out 1; have k101 : (w49.alloc (.cells #[.slice A49 2 c49, .slice B49 1 d49] 25 (0, 0))).cell? ⟨w.heap.size + 1 + 1 + 1, 0, none⟩ = #[.slice (some ⟨w.heap.size, 0, none⟩) 2 2, .slice (some ⟨w.heap.size + 1 + 1, 0, none⟩) 1 1][0]? := blk_cell (blk_alloc f92.out _) 0; have k102 : (w49.alloc (.cells #[.slice A49 2 c49, .slice B49 1 d49] 25 (0, 0))).cell? ⟨w.heap.size + 1 + 1 + 1, 1, none⟩ = #[.slice (some ⟨w.heap.size, 0, none⟩) 2 2, .slice (some ⟨w.heap.size + 1 + 1, 0, none⟩) 1 1][1]? := blk_cell (blk_alloc f92.out _) 1; have st6 : True := trivial)
    | (go_at_call 19; clear st6; refine name_world (fun x55 hx => ?_); have f103 : Aside0 (x55.heap[w.heap.size]? = some (.cells #[.string (⟨#[97]⟩ : ByteArray), .string (⟨#[98]⟩ : ByteArray)] 9 (0, 0))) := ⟨by rw [← hx]; exact (blk_alloc (blk_alloc f89.out _) _)⟩; clear f89; have f104 : Aside0 (x55.heap[w.heap.size + 1]? = some (.cells #[.string (⟨#[49]⟩ : ByteArray), .string (⟨#[50]⟩ : ByteArray)] 9 (0, 0))) := ⟨by rw [← hx]; exact (blk_alloc (blk_alloc f90.out _) _)⟩; clear f90; have f105 : Aside0 (x55.heap[w.heap.size + 1 + 1]? = some (.cells #[.slice (some ⟨w.heap.size + 1, 0, none⟩) 2 2] 22 (0, 0))) := ⟨by rw [← hx]; exact (blk_alloc (blk_alloc f91.out _) _)⟩; clear f91; have f106 : Aside0 (x55.heap[w.heap.size + 1 + 1 + 1]? = some (.cells #[.slice (some ⟨w.heap.size, 0, none⟩) 2 2, .slice (some ⟨w.heap.size + 1 + 1, 0, none⟩) 1 1] 25 (0, 0))) := ⟨by rw [← hx]; exact (blk_alloc (blk_alloc f92.out _) _)⟩; clear f92; have f107 : Aside0 (x55.heap[w23.heap.size]? = some (.cells #[.slice A23 2 c23, .slice B23 1 d23] 25 (0, 0))) := ⟨by rw [← hx]; exact (blk_alloc (blk_alloc f93.out _) _)⟩; clear f93; have f108 : Aside0 (x55.heap[w28.heap.size]? = some (.cells #[.slice A28 1 c28, .slice B28 1 d28] 25 (0, 0))) := ⟨by rw [← hx]; exact (blk_alloc (blk_alloc f94.out _) _)⟩; clear f94; have f109 : Aside0 (x55.heap[w33.heap.size]? = some (.cells #[.slice A33 0 c33, .slice B33 0 d33] 25 (0, 0))) := ⟨by rw [← hx]; exact (blk_alloc (blk_alloc f95.out _) _)⟩; clear f95; have f110 : Aside0 (x55.heap[w38.heap.size]? = some (.cells #[.slice A38 0 c38, .slice B38 0 d38] 25 (0, 0))) := ⟨by rw [← hx]; exact (blk_alloc (blk_alloc f96.out _) _)⟩; clear f96; have f111 : Aside0 (x55.heap[w38.heap.size + 1]? = some (.cells #[.string (⟨#[120]⟩ : ByteArray)] 9 (0, 0))) := ⟨by rw [← hx]; exact (blk_alloc (blk_alloc f97.out _) _)⟩; clear f97; have f112 : Aside0 (x55.heap[w44.heap.size]? = some (.cells #[.slice A44 0 c44, .slice B44 0 d44] 25 (0, 0))) := ⟨by rw [← hx]; exact (blk_alloc (blk_alloc f98.out _) _)⟩; clear f98; have f113 : Aside0 (x55.heap[w49.heap.size]? = some (.cells #[.slice A49 2 c49, .slice B49 1 d49] 25 (0, 0))) := ⟨by rw [← hx]; exact (blk_alloc (blk_atk rfl) _)⟩; have f114 : Aside0 (x55.heap[w49.heap.size + 1]? = some (.cells #[.int .i64 1] 3 (0, 0))) := ⟨by rw [← hx]; exact (blk_atk (by simp only [World.size_alloc]))⟩; have HB2 : Aside0 (Below w.heap.size w x55) := ⟨by rw [← hx]; exact (below_alloc (below_alloc HB.out _) _)⟩; have HS : Aside0 (Below w49.heap.size w49 x55) := ⟨by rw [← hx]; exact (below_alloc (below_alloc (Below.refl _ _) _) _)⟩; clear HB; have HB := Aside0.mk HB2.out; clear HB2 hx; have HC23' := Aside0.mk (Kd.C_below HC23.out HS.out); clear HC23; have HC23 := Aside0.mk HC23'.out; clear HC23'; have HD23' := Aside0.mk (Kd.C_below HD23.out HS.out); clear HD23; have HD23 := Aside0.mk HD23'.out; clear HD23'; have HC28' := Aside0.mk (Kd.C_below HC28.out HS.out); clear HC28; have HC28 := Aside0.mk HC28'.out; clear HC28'; have HD28' := Aside0.mk (Kd.C_below HD28.out HS.out); clear HD28; have HD28 := Aside0.mk HD28'.out; clear HD28'; have HC49' := Aside0.mk (Kd.C_below HC49.out HS.out); clear HC49; have HC49 := Aside0.mk HC49'.out; clear HC49'; have HD49' := Aside0.mk (Kd.C_below HD49.out HS.out); clear HD49; have HD49 := Aside0.mk HD49'.out; clear HD49'; refine (reads_of (edit_Project.calls (some ⟨w.heap.size, 0, none⟩) 2 hW (some ⟨w.heap.size + 1 + 1, 0, none⟩) 1 tR (some ⟨w49.heap.size + 1, 0, none⟩) 1 [1] _ _ _ x55 (C_blk hW (by decide) f103.out) (Nat.le_refl _) (C_rows _ (by decide) (fun j r hj => match j, hj with | 0, hj => by simp at hj; subst hj; exact ⟨_, 2, blk_cell f105.out 0, Nat.le_refl _, C_blk _ (by decide) f104.out⟩ | j + 1, hj => by simp at hj)) (Nat.le_refl _) (C_oneI f114.out) (Nat.le_refl _) f_proj) rfl rfl).mono ?_; rintro e w55 ⟨A55, c55, B55, d55, rfl, hc55, hd55, hC55, hD55, hd⟩; have f115 := Aside0.mk (blk_below f103.out hd); clear f103; have f116 := Aside0.mk (blk_below f104.out hd); clear f104; have f117 := Aside0.mk (blk_below f105.out hd); clear f105; have f118 := Aside0.mk (blk_below f106.out hd); clear f106; have f119 := Aside0.mk (blk_below f107.out hd); clear f107; have f120 := Aside0.mk (blk_below f108.out hd); clear f108; have f121 := Aside0.mk (blk_below f109.out hd); clear f109; have f122 := Aside0.mk (blk_below f110.out hd); clear f110; have f123 := Aside0.mk (blk_below f111.out hd); clear f111; have f124 := Aside0.mk (blk_below f112.out hd); clear f112; have f125 := Aside0.mk (blk_below f113.out hd); clear f113; have f126 := Aside0.mk (blk_below f114.out hd); clear f114; have HC23' := Aside0.mk (Kd.C_below HC23.out hd); clear HC23; have HC23 := Aside0.mk HC23'.out; clear HC23'; have HD23' := Aside0.mk (Kd.C_below HD23.out hd); clear HD23; have HD23 := Aside0.mk HD23'.out; clear HD23'; have HC28' := Aside0.mk (Kd.C_below HC28.out hd); clear HC28; have HC28 := Aside0.mk HC28'.out; clear HC28'; have HD28' := Aside0.mk (Kd.C_below HD28.out hd); clear HD28; have HD28 := Aside0.mk HD28'.out; clear HD28'; have HC49' := Aside0.mk (Kd.C_below HC49.out hd); clear HC49; have HC49 := Aside0.mk HC49'.out; clear HC49'; have HD49' := Aside0.mk (Kd.C_below HD49.out hd); clear HD49; have HD49 := Aside0.mk HD49'.out; clear HD49'; have HT := Aside0.mk (below_step HS.out hd); have HB2 := Aside0.mk (below_step HB.out hd); clear HB; have HB := Aside0.mk HB2.out; clear HB2 HS HT hd; have HC55 := Aside0.mk hC55; have HD55 := Aside0.mk hD55; clear hC55 hD55; clear HC55 HD55; have k127 : (w55).cell? ⟨w23.heap.size, 0, none⟩ = #[.slice A23 2 c23, .slice B23 1 d23][0]? := blk_cell f119.out 0; have k128 : (w55).cell? ⟨w23.heap.size, 1, none⟩ = #[.slice A23 2 c23, .slice B23 1 d23][1]? := blk_cell f119.out 1; have k129 : (w55.alloc (.cells #[.slice A55 1 c55, .slice B55 1 d55] 25 (0, 0))).cell? ⟨w23.heap.size, 0, none⟩ = #[.slice A23 2 c23, .slice B23 1 d23][0]? := blk_cell (blk_alloc f119.out _) 0; have k130 : (w55.alloc (.cells #[.slice A55 1 c55, .slice B55 1 d55] 25 (0, 0))).cell? ⟨w23.heap.size, 1, none⟩ = #[.slice A23 2 c23, .slice B23 1 d23][1]? := blk_cell (blk_alloc f119.out _) 1; have st7 : True := trivial)
    | (go_at_call 28; clear st7; refine name_world (fun x61 hx => ?_); have f131 : Aside0 (x61.heap[w.heap.size]? = some (.cells #[.string (⟨#[97]⟩ : ByteArray), .string (⟨#[98]⟩ : ByteArray)] 9 (0, 0))) := ⟨by rw [← hx]; exact (blk_alloc (blk_alloc f115.out _) _)⟩; clear f115; have f132 : Aside0 (x61.heap[w.heap.size + 1]? = some (.cells #[.string (⟨#[49]⟩ : ByteArray), .string (⟨#[50]⟩ : ByteArray)] 9 (0, 0))) := ⟨by rw [← hx]; exact (blk_alloc (blk_alloc f116.out _) _)⟩; clear f116; have f133 : Aside0 (x61.heap[w.heap.size + 1 + 1]? = some (.cells #[.slice (some ⟨w.heap.size + 1, 0, none⟩) 2 2] 22 (0, 0))) := ⟨by rw [← hx]; exact (blk_alloc (blk_alloc f117.out _) _)⟩; clear f117; have f134 : Aside0 (x61.heap[w.heap.size + 1 + 1 + 1]? = some (.cells #[.slice (some ⟨w.heap.size, 0, none⟩) 2 2, .slice (some ⟨w.heap.size + 1 + 1, 0, none⟩) 1 1] 25 (0, 0))) := ⟨by rw [← hx]; exact (blk_alloc (blk_alloc f118.out _) _)⟩; clear f118; have f135 : Aside0 (x61.heap[w23.heap.size]? = some (.cells #[.slice A23 2 c23, .slice B23 1 d23] 25 (0, 0))) := ⟨by rw [← hx]; exact (blk_alloc (blk_alloc f119.out _) _)⟩; clear f119; have f136 : Aside0 (x61.heap[w28.heap.size]? = some (.cells #[.slice A28 1 c28, .slice B28 1 d28] 25 (0, 0))) := ⟨by rw [← hx]; exact (blk_alloc (blk_alloc f120.out _) _)⟩; clear f120; have f137 : Aside0 (x61.heap[w33.heap.size]? = some (.cells #[.slice A33 0 c33, .slice B33 0 d33] 25 (0, 0))) := ⟨by rw [← hx]; exact (blk_alloc (blk_alloc f121.out _) _)⟩; clear f121; have f138 : Aside0 (x61.heap[w38.heap.size]? = some (.cells #[.slice A38 0 c38, .slice B38 0 d38] 25 (0, 0))) := ⟨by rw [← hx]; exact (blk_alloc (blk_alloc f122.out _) _)⟩; clear f122; have f139 : Aside0 (x61.heap[w38.heap.size + 1]? = some (.cells #[.string (⟨#[120]⟩ : ByteArray)] 9 (0, 0))) := ⟨by rw [← hx]; exact (blk_alloc (blk_alloc f123.out _) _)⟩; clear f123; have f140 : Aside0 (x61.heap[w44.heap.size]? = some (.cells #[.slice A44 0 c44, .slice B44 0 d44] 25 (0, 0))) := ⟨by rw [← hx]; exact (blk_alloc (blk_alloc f124.out _) _)⟩; clear f124; have f141 : Aside0 (x61.heap[w49.heap.size]? = some (.cells #[.slice A49 2 c49, .slice B49 1 d49] 25 (0, 0))) := ⟨by rw [← hx]; exact (blk_alloc (blk_alloc f125.out _) _)⟩; clear f125; have f142 : Aside0 (x61.heap[w49.heap.size + 1]? = some (.cells #[.int .i64 1] 3 (0, 0))) := ⟨by rw [← hx]; exact (blk_alloc (blk_alloc f126.out _) _)⟩; clear f126; have f143 : Aside0 (x61.heap[w55.heap.size]? = some (.cells #[.slice A55 1 c55, .slice B55 1 d55] 25 (0, 0))) := ⟨by rw [← hx]; exact (blk_alloc (blk_atk rfl) _)⟩; have f144 : Aside0 (x61.heap[w55.heap.size + 1]? = some (.cells #[.string (⟨#[98]⟩ : ByteArray), .string (⟨#[97]⟩ : ByteArray)] 9 (0, 0))) := ⟨by rw [← hx]; exact (blk_atk (by simp only [World.size_alloc]))⟩; have HB2 : Aside0 (Below w.heap.size w x61) := ⟨by rw [← hx]; exact (below_alloc (below_alloc HB.out _) _)⟩; have HS : Aside0 (Below w55.heap.size w55 x61) := ⟨by rw [← hx]; exact (below_alloc (below_alloc (Below.refl _ _) _) _)⟩; clear HB; have HB := Aside0.mk HB2.out; clear HB2 hx; have HC23' := Aside0.mk (Kd.C_below HC23.out HS.out); clear HC23; have HC23 := Aside0.mk HC23'.out; clear HC23'; have HD23' := Aside0.mk (Kd.C_below HD23.out HS.out); clear HD23; have HD23 := Aside0.mk HD23'.out; clear HD23'; have HC28' := Aside0.mk (Kd.C_below HC28.out HS.out); clear HC28; have HC28 := Aside0.mk HC28'.out; clear HC28'; have HD28' := Aside0.mk (Kd.C_below HD28.out HS.out); clear HD28; have HD28 := Aside0.mk HD28'.out; clear HD28'; have HC49' := Aside0.mk (Kd.C_below HC49.out HS.out); clear HC49; have HC49 := Aside0.mk HC49'.out; clear HC49'; have HD49' := Aside0.mk (Kd.C_below HD49.out HS.out); clear HD49; have HD49 := Aside0.mk HD49'.out; clear HD49'; refine (rowW A23 c23 mH (some ⟨w55.heap.size + 1, 0, none⟩) 2 x61 HC23.out hc23 (C_blk mH (by decide) f144.out) (Nat.le_refl _) row_m).mono ?_; rintro e w61 ⟨rfl, hd⟩; have f145 := Aside0.mk (blk_below f131.out hd); clear f131; have f146 := Aside0.mk (blk_below f132.out hd); clear f132; have f147 := Aside0.mk (blk_below f133.out hd); clear f133; have f148 := Aside0.mk (blk_below f134.out hd); clear f134; have f149 := Aside0.mk (blk_below f135.out hd); clear f135; have f150 := Aside0.mk (blk_below f136.out hd); clear f136; have f151 := Aside0.mk (blk_below f137.out hd); clear f137; have f152 := Aside0.mk (blk_below f138.out hd); clear f138; have f153 := Aside0.mk (blk_below f139.out hd); clear f139; have f154 := Aside0.mk (blk_below f140.out hd); clear f140; have f155 := Aside0.mk (blk_below f141.out hd); clear f141; have f156 := Aside0.mk (blk_below f142.out hd); clear f142; have f157 := Aside0.mk (blk_below f143.out hd); clear f143; have f158 := Aside0.mk (blk_below f144.out hd); clear f144; have HC23' := Aside0.mk (Kd.C_below HC23.out hd); clear HC23; have HC23 := Aside0.mk HC23'.out; clear HC23'; have HD23' := Aside0.mk (Kd.C_below HD23.out hd); clear HD23; have HD23 := Aside0.mk HD23'.out; clear HD23'; have HC28' := Aside0.mk (Kd.C_below HC28.out hd); clear HC28; have HC28 := Aside0.mk HC28'.out; clear HC28'; have HD28' := Aside0.mk (Kd.C_below HD28.out hd); clear HD28; have HD28 := Aside0.mk HD28'.out; clear HD28'; have HC49' := Aside0.mk (Kd.C_below HC49.out hd); clear HC49; have HC49 := Aside0.mk HC49'.out; clear HC49'; have HD49' := Aside0.mk (Kd.C_below HD49.out hd); clear HD49; have HD49 := Aside0.mk HD49'.out; clear HD49'; have HT := Aside0.mk (below_step HS.out hd); have HB2 := Aside0.mk (below_step HB.out hd); clear HB; have HB := Aside0.mk HB2.out; clear HB2 HS HT hd; have k159 : (w61).cell? ⟨w28.heap.size, 0, none⟩ = #[.slice A28 1 c28, .slice B28 1 d28][0]? := blk_cell f150.out 0; have k160 : (w61).cell? ⟨w28.heap.size, 1, none⟩ = #[.slice A28 1 c28, .slice B28 1 d28][1]? := blk_cell f150.out 1; have k161 : (w61).cell? ⟨w49.heap.size, 0, none⟩ = #[.slice A49 2 c49, .slice B49 1 d49][0]? := blk_cell f155.out 0; have k162 : (w61).cell? ⟨w49.heap.size, 1, none⟩ = #[.slice A49 2 c49, .slice B49 1 d49][1]? := blk_cell f155.out 1; have k163 : (w61).cell? ⟨w55.heap.size, 0, none⟩ = #[.slice A55 1 c55, .slice B55 1 d55][0]? := blk_cell f157.out 0; have k164 : (w61).cell? ⟨w55.heap.size, 1, none⟩ = #[.slice A55 1 c55, .slice B55 1 d55][1]? := blk_cell f157.out 1; have st8 : True := trivial)
    | (go_at_call 17; clear st8; have HS := Aside0.mk (Below.refl w61.heap.size w61); have HC23' := Aside0.mk (Kd.C_below HC23.out HS.out); clear HC23; have HC23 := Aside0.mk HC23'.out; clear HC23'; have HD23' := Aside0.mk (Kd.C_below HD23.out HS.out); clear HD23; have HD23 := Aside0.mk HD23'.out; clear HD23'; have HC28' := Aside0.mk (Kd.C_below HC28.out HS.out); clear HC28; have HC28 := Aside0.mk HC28'.out; clear HC28'; have HD28' := Aside0.mk (Kd.C_below HD28.out HS.out); clear HD28; have HD28 := Aside0.mk HD28'.out; clear HD28'; have HC49' := Aside0.mk (Kd.C_below HC49.out HS.out); clear HC49; have HC49 := Aside0.mk HC49'.out; clear HC49'; have HD49' := Aside0.mk (Kd.C_below HD49.out HS.out); clear HD49; have HD49 := Aside0.mk HD49'.out; clear HD49'; refine (cellW A49 c49 sH B49 d49 sR 0 1 (⟨#[57]⟩ : ByteArray) w61 HC49.out hc49 HD49.out hd49 cell_s).mono ?_; rintro e w97 ⟨rfl, hd⟩; have f165 := Aside0.mk (blk_below f145.out hd); clear f145; have f166 := Aside0.mk (blk_below f146.out hd); clear f146; have f167 := Aside0.mk (blk_below f147.out hd); clear f147; have f168 := Aside0.mk (blk_below f148.out hd); clear f148; have f169 := Aside0.mk (blk_below f149.out hd); clear f149; have f170 := Aside0.mk (blk_below f150.out hd); clear f150; have f171 := Aside0.mk (blk_below f151.out hd); clear f151; have f172 := Aside0.mk (blk_below f152.out hd); clear f152; have f173 := Aside0.mk (blk_below f153.out hd); clear f153; have f174 := Aside0.mk (blk_below f154.out hd); clear f154; have f175 := Aside0.mk (blk_below f155.out hd); clear f155; have f176 := Aside0.mk (blk_below f156.out hd); clear f156; have f177 := Aside0.mk (blk_below f157.out hd); clear f157; have f178 := Aside0.mk (blk_below f158.out hd); clear f158; have HC23' := Aside0.mk (Kd.C_below HC23.out hd); clear HC23; have HC23 := Aside0.mk HC23'.out; clear HC23'; have HD23' := Aside0.mk (Kd.C_below HD23.out hd); clear HD23; have HD23 := Aside0.mk HD23'.out; clear HD23'; have HC28' := Aside0.mk (Kd.C_below HC28.out hd); clear HC28; have HC28 := Aside0.mk HC28'.out; clear HC28'; have HD28' := Aside0.mk (Kd.C_below HD28.out hd); clear HD28; have HD28 := Aside0.mk HD28'.out; clear HD28'; have HC49' := Aside0.mk (Kd.C_below HC49.out hd); clear HC49; have HC49 := Aside0.mk HC49'.out; clear HC49'; have HD49' := Aside0.mk (Kd.C_below HD49.out hd); clear HD49; have HD49 := Aside0.mk HD49'.out; clear HD49'; have HT := Aside0.mk (below_step HS.out hd); have HB2 := Aside0.mk (below_step HB.out hd); clear HB; have HB := Aside0.mk HB2.out; clear HB2 HS HT hd; have k179 : (w97).cell? ⟨w55.heap.size, 0, none⟩ = #[.slice A55 1 c55, .slice B55 1 d55][0]? := blk_cell f177.out 0; have k180 : (w97).cell? ⟨w55.heap.size, 1, none⟩ = #[.slice A55 1 c55, .slice B55 1 d55][1]? := blk_cell f177.out 1; have st9 : True := trivial))
  go_ret
  exact ⟨rfl, HB.out⟩
def tartanlaw05_works.f : Option Bool := some true
theorem tartanlaw05_works.calls (r : Bool) (w : World) (h : tartanlaw05_works.f = some r) : Calls Try.prog 10 #[] w fun e w' => e = .returned (.bool r) ∧ Below w.heap.size w w' := by
  have e : r = true := (Option.some.inj h).symm
  rw [e]
  exact works_calls w
end Go.Proofs.Ytaolakknkhggnaa.X
end
