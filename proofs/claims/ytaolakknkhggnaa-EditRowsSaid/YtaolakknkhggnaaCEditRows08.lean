/- The texts that the law EditRows0 wants, part 8 of 8: what is kept of them. -/
import Derived.Test.YtaolakknkhggnaaCEditRows07
section
namespace Go.Proofs.Ytaolakknkhggnaa.X
open Go.RowKit Go.Maps Go.Shelf Go.Proofs.YtaolakknkhggnaaW.PrintWords Go.Proofs.YtaolakknkhggnaaW.PrintLast
set_option linter.unusedVariables false
set_option linter.unusedSimpArgs false
structure TX (w : World) (tc xc : Array Value) (W : World) : Prop where
  t : W.heap[w.heap.size]? = some (.cells tc 25 (0, 0))
  x : W.heap[w.heap.size + 1]? = some (.cells xc 28 (0, 0))
  z : W.heap[w.heap.size + 1 + 1]? = some (.cells #[.slice none 0 0, .slice none 0 0] 25 (0, 0))
  lo : Below w.heap.size w W
theorem TX.below {w : World} {tc xc : Array Value} {W W' : World} (h : TX w tc xc W) (hb : Below W.heap.size W W') : TX w tc xc W' :=
  ⟨(hb.block _ (lt_of_block h.t)).trans h.t, (hb.block _ (lt_of_block h.x)).trans h.x, (hb.block _ (lt_of_block h.z)).trans h.z, h.lo.trans (hb.mono h.lo.size)⟩
theorem tx_start (w : World) (tc xc : Array Value) : TX w tc xc (((w.alloc (.cells tc 25)).alloc (.cells xc 28)).alloc (.cells #[.slice none 0 0, .slice none 0 0] 25)) := by
  have h1 := blk_new (w.alloc (.cells tc 25)) (.cells xc 28)
  have h2 := blk_new ((w.alloc (.cells tc 25)).alloc (.cells xc 28)) (.cells #[.slice none 0 0, .slice none 0 0] 25)
  rw [World.size_alloc] at h1
  rw [World.size_alloc, World.size_alloc] at h2
  exact ⟨((below_alloc (below_alloc (Below.refl _ (w.alloc (.cells tc 25))) _) _).block _ (by simp)).trans (blk_new w _), ((below_alloc (Below.refl _ _) _).block _ (by simp)).trans h1, h2, below_alloc (below_alloc (below_alloc (Below.refl _ _) _) _) _⟩
section
variable {we w : World} {tc xc : Array Value} {W W' : World}
theorem tx_C {α : Type} {d : Kd α} (hd : Kd.Heap d) (e b : Nat) {A : Option Addr} {c : Nat} {l : List α} (h : TX w tc xc W) (hwe : Below we.heap.size we w) (hC : d.C we A l.length l) (hc : l.length ≤ c) : Kd.V d e W b (fun k => k < we.heap.size ∨ w.heap.size + 1 + 1 < k) (.slice A l.length c) l :=
  Kd.V_mk hc (Kd.F_mono (Kd.F_step (Kd.C_F hd hC) (fun k hk _ => (h.lo.block k (Nat.lt_of_lt_of_le hk hwe.size)).trans (hwe.block k hk))) (fun k hk => .inl hk))
theorem tx_R {v : Value} {l : List ByteArray} {b : Nat} (h : TX w tc xc W) (hR : Kd.R Kd.string 9 W' W.heap.size (fun _ => True) v l) : Kd.V Kd.string 9 W' b (fun k => k < we.heap.size ∨ w.heap.size + 1 + 1 < k) v l :=
  Kd.R_V (Kd.R_mono (Kd.R_bound hR) (fun k hk => .inr (by have := hk.2.1; have := lt_of_block h.z; omega)))
theorem tx_S {v : Value} {l : List (List ByteArray)} {ok : Nat → Prop} {b : Nat} (h : TX w tc xc W) (hS : Kd.S (Kd.slice 9 Kd.string) 22 W' W.heap.size ok v l) : Kd.V (Kd.slice 9 Kd.string) 22 W' b (fun k => k < we.heap.size ∨ w.heap.size + 1 + 1 < k) v l :=
  Kd.S_V (Kd.S_mono (Kd.S_bound hS) (fun k hk => .inr (by have := hk.2.1; have := lt_of_block h.z; omega)))
theorem tx_N {v : Value} {l : List (List ByteArray)} {b b' : Nat} (h : TX w tc xc W) (hN : Kd.N (Kd.slice 9 Kd.string) 22 W' b' (fun k => ((k < we.heap.size ∨ w.heap.size + 1 + 1 < k) ∨ (k < we.heap.size ∨ w.heap.size + 1 + 1 < k)) ∨ W.heap.size ≤ k) v l) : Kd.V (Kd.slice 9 Kd.string) 22 W' b (fun k => k < we.heap.size ∨ w.heap.size + 1 + 1 < k) v l :=
  Kd.N_V (Kd.N_mono hN (fun k hk => by
    have := lt_of_block h.z
    rcases hk with (hk | hk) | hk
    · exact hk
    · exact hk
    · exact .inr (by omega)))
theorem tx_N1 {v : Value} {l : List (List ByteArray)} {b b' : Nat} (h : TX w tc xc W) (hN : Kd.N (Kd.slice 9 Kd.string) 22 W' b' (fun k => (k < we.heap.size ∨ w.heap.size + 1 + 1 < k) ∨ W.heap.size ≤ k) v l) : Kd.V (Kd.slice 9 Kd.string) 22 W' b (fun k => k < we.heap.size ∨ w.heap.size + 1 + 1 < k) v l :=
  Kd.N_V (Kd.N_mono hN (fun k hk => by
    have := lt_of_block h.z
    rcases hk with hk | hk
    · exact hk
    · exact .inr (by omega)))
theorem reb {α : Type} {d : Kd α} {e b b' : Nat} {ok : Nat → Prop} {v : Value} {xs : List α} (h : Kd.V d e W b ok v xs) : Kd.V d e W b' ok v xs := h
theorem tx_end {A B : Option Addr} {c d b b' : Nat} {l : List ByteArray} {r : List (List ByteArray)} (hwe : Below we.heap.size we w) (h : TX w tc xc W) (h0 : Kd.V Kd.string 9 W b (fun k => k < we.heap.size ∨ w.heap.size + 1 + 1 < k) (.slice A l.length c) l) (h1 : Kd.V (Kd.slice 9 Kd.string) 22 W b' (fun k => k < we.heap.size ∨ w.heap.size + 1 + 1 < k) (.slice B r.length d) r) :
    ((W.setCell ⟨w.heap.size + 1 + 1, 0, none⟩ (.slice A l.length c)).setCell ⟨w.heap.size + 1 + 1, 1, none⟩ (.slice B r.length d)).heap[w.heap.size + 1 + 1]? = some (.cells #[.slice A l.length c, .slice B r.length d] 25 (0, 0)) ∧
    Kd.V Kd.string 9 ((W.setCell ⟨w.heap.size + 1 + 1, 0, none⟩ (.slice A l.length c)).setCell ⟨w.heap.size + 1 + 1, 1, none⟩ (.slice B r.length d)) 0 (fun k => k < we.heap.size ∨ w.heap.size ≤ k) (.slice A l.length c) l ∧ Kd.V (Kd.slice 9 Kd.string) 22 ((W.setCell ⟨w.heap.size + 1 + 1, 0, none⟩ (.slice A l.length c)).setCell ⟨w.heap.size + 1 + 1, 1, none⟩ (.slice B r.length d)) 0 (fun k => k < we.heap.size ∨ w.heap.size ≤ k) (.slice B r.length d) r ∧ Below w.heap.size w ((W.setCell ⟨w.heap.size + 1 + 1, 0, none⟩ (.slice A l.length c)).setCell ⟨w.heap.size + 1 + 1, 1, none⟩ (.slice B r.length d)) := by
  have hs := hwe.size
  have hne : ∀ k, (k < we.heap.size ∨ w.heap.size + 1 + 1 < k) → k ≠ w.heap.size + 1 + 1 := fun k hk => by omega
  have hok : ∀ k, (k < we.heap.size ∨ w.heap.size + 1 + 1 < k) → (k < we.heap.size ∨ w.heap.size ≤ k) := fun k hk => by omega
  have v0 := Kd.V_mono (Kd.V_far (p := ⟨w.heap.size + 1 + 1, 1, none⟩) (Kd.V_far (p := ⟨w.heap.size + 1 + 1, 0, none⟩) h0 hne (.slice A l.length c)) hne (.slice B r.length d)) hok
  have v1 := Kd.V_mono (Kd.V_far (p := ⟨w.heap.size + 1 + 1, 1, none⟩) (Kd.V_far (p := ⟨w.heap.size + 1 + 1, 0, none⟩) h1 hne (.slice A l.length c)) hne (.slice B r.length d)) hok
  exact ⟨heap_setCell_same _ _ 1 _ _ _ (heap_setCell_same _ _ 0 _ _ _ h.z), v0, v1, (h.lo.setCell (by show w.heap.size ≤ w.heap.size + 1 + 1; omega) _).setCell (by show w.heap.size ≤ w.heap.size + 1 + 1; omega) _⟩
end
/-- A table that is read comes back: it lies in what is elder than we, or in what is new. -/
def ToT (we w : World) (r1 : List ByteArray) (r2 : List (List ByteArray)) (e : Ending) (w' : World) : Prop :=
  ∃ (A : Option Addr) (c : Nat) (B : Option Addr) (d : Nat), e = .returned (.agg #[.slice A r1.length c, .slice B r2.length d]) ∧ Kd.V Kd.string 9 w' 0 (fun k => k < we.heap.size ∨ w.heap.size ≤ k) (.slice A r1.length c) r1 ∧ Kd.V (Kd.slice 9 Kd.string) 22 w' 0 (fun k => k < we.heap.size ∨ w.heap.size ≤ k) (.slice B r2.length d) r2 ∧ Below w.heap.size w w'
set_option maxRecDepth 100000 in
set_option maxHeartbeats 4000000 in
theorem turned_0 (A0 : Option Addr) (c0 : Nat) (l0 : List ByteArray) (A1 : Option Addr) (c1 : Nat) (l1 : List (List ByteArray)) (a1 a2 : Int) (a3 : ByteArray) (A4 : Option Addr) (c4 : Nat) (l4 : List ByteArray) (A5 : Option Addr) (c5 : Nat) (l5 : List Int) (we w : World) (hwe : Below we.heap.size we w) (hr0 : Kd.C Kd.string we A0 l0.length l0) (hc0 : l0.length ≤ c0) (hr1 : Kd.C (Kd.slice 9 Kd.string) we A1 l1.length l1) (hc1 : l1.length ≤ c1) (hr4 : Kd.C Kd.string we A4 l4.length l4) (hc4 : l4.length ≤ c4) (hr5 : Kd.C (Kd.int .i64) we A5 l5.length l5) (hc5 : l5.length ≤ c5) (k : Nat) (r1 : List ByteArray) (r2 : List (List ByteArray)) (h1 : tartanref05_insertCol.f k l0 l1 a1 a3 l4 = some (r1, r2)) :
    Calls Try.prog 33 #[.agg #[.slice A0 l0.length c0, .slice A1 l1.length c1], .agg #[.int .i64 0, .int .i64 a1, .int .i64 a2, .string a3, .slice A4 l4.length c4, .slice A5 l5.length c5]] w (ToT we w (r1) (r2)) := by
  obtain ⟨W0, hW0⟩ : ∃ W0, Aside0 (((w.alloc (.cells #[.slice A0 l0.length c0, .slice A1 l1.length c1] 25)).alloc (.cells #[.int .i64 0, .int .i64 a1, .int .i64 a2, .string a3, .slice A4 l4.length c4, .slice A5 l5.length c5] 28)).alloc (.cells #[.slice none 0 0, .slice none 0 0] 25) = W0) := ⟨_, ⟨rfl⟩⟩
  have HX0 : Aside0 (TX w #[.slice A0 l0.length c0, .slice A1 l1.length c1] #[.int .i64 0, .int .i64 a1, .int .i64 a2, .string a3, .slice A4 l4.length c4, .slice A5 l5.length c5] W0) := ⟨by rw [← hW0.out]; exact tx_start w _ _⟩
  have HWE := Aside0.mk hwe
  have HR0 := Aside0.mk hr0
  have HR1 := Aside0.mk hr1
  have HR4 := Aside0.mk hr4
  have HR5 := Aside0.mk hr5
  clear hr0 hr1 hr4 hr5 hwe
  go_enter Try.func33, Try.ntmps33
  go_wp2_with (go_at_call 72; rw [hW0.out]; refine (tartanref05_insertCol.calls k A0 c0 l0 A1 c1 l1 a1 a3 A4 c4 l4 r1 r2 W0 (Kd.C_below HR0.out (HWE.out.trans (HX0.out.lo.mono HWE.out.size))) hc0 (Kd.C_below HR1.out (HWE.out.trans (HX0.out.lo.mono HWE.out.size))) hc1 (Kd.C_below HR4.out (HWE.out.trans (HX0.out.lo.mono HWE.out.size))) hc4 h1).mono ?_; rintro e w4 ⟨v, v', rfl, ho, ho', hb⟩; obtain ⟨A9, c9, rfl, hc9, hC9⟩ := Kd.R_reads ho; obtain ⟨B9, d9, rfl, hd9, hD9⟩ := Kd.S_reads ho'; have HV := Aside0.mk (tx_R (we := we) (b := 0) HX0.out ho); have HU := Aside0.mk (tx_S (we := we) (b := 0) HX0.out ho'); have HX4 := Aside0.mk (HX0.out.below hb); have hz0 := blk_cell HX4.out.z 0; have hz1 := blk_cell HX4.out.z 1; have hf0 := blk_frozen HX4.out.z 0; have hf1 := blk_frozen HX4.out.z 1; clear ho ho' hb hC9 hD9)
  have HF := Aside0.mk (tx_end HWE.out HX4.out HV.out HU.out)
  have hc0 := blk_cell HF.out.1 0
  have hc1 := blk_cell HF.out.1 1
  refine bodyPost_ret (v := .agg #[.slice A9 r1.length c9, .slice B9 r2.length d9]) (by simp [results, Try.results33, go_sem, hc0, hc1]) rfl ?_
  exact ⟨_, _, _, _, rfl, HF.out.2⟩
set_option maxRecDepth 100000 in
set_option maxHeartbeats 4000000 in
theorem turned_1 (A0 : Option Addr) (c0 : Nat) (l0 : List ByteArray) (A1 : Option Addr) (c1 : Nat) (l1 : List (List ByteArray)) (a1 a2 : Int) (a3 : ByteArray) (A4 : Option Addr) (c4 : Nat) (l4 : List ByteArray) (A5 : Option Addr) (c5 : Nat) (l5 : List Int) (we w : World) (hwe : Below we.heap.size we w) (hr0 : Kd.C Kd.string we A0 l0.length l0) (hc0 : l0.length ≤ c0) (hr1 : Kd.C (Kd.slice 9 Kd.string) we A1 l1.length l1) (hc1 : l1.length ≤ c1) (hr4 : Kd.C Kd.string we A4 l4.length l4) (hc4 : l4.length ≤ c4) (hr5 : Kd.C (Kd.int .i64) we A5 l5.length l5) (hc5 : l5.length ≤ c5) (k : Nat) (r1 : List ByteArray) (r2 : List (List ByteArray)) (h1 : tartanref05_deleteCol.f k l0 l1 a1 = some (r1, r2)) :
    Calls Try.prog 33 #[.agg #[.slice A0 l0.length c0, .slice A1 l1.length c1], .agg #[.int .i64 1, .int .i64 a1, .int .i64 a2, .string a3, .slice A4 l4.length c4, .slice A5 l5.length c5]] w (ToT we w (r1) (r2)) := by
  obtain ⟨W0, hW0⟩ : ∃ W0, Aside0 (((w.alloc (.cells #[.slice A0 l0.length c0, .slice A1 l1.length c1] 25)).alloc (.cells #[.int .i64 1, .int .i64 a1, .int .i64 a2, .string a3, .slice A4 l4.length c4, .slice A5 l5.length c5] 28)).alloc (.cells #[.slice none 0 0, .slice none 0 0] 25) = W0) := ⟨_, ⟨rfl⟩⟩
  have HX0 : Aside0 (TX w #[.slice A0 l0.length c0, .slice A1 l1.length c1] #[.int .i64 1, .int .i64 a1, .int .i64 a2, .string a3, .slice A4 l4.length c4, .slice A5 l5.length c5] W0) := ⟨by rw [← hW0.out]; exact tx_start w _ _⟩
  have HWE := Aside0.mk hwe
  have HR0 := Aside0.mk hr0
  have HR1 := Aside0.mk hr1
  have HR4 := Aside0.mk hr4
  have HR5 := Aside0.mk hr5
  clear hr0 hr1 hr4 hr5 hwe
  go_enter Try.func33, Try.ntmps33
  go_wp2_with (go_at_call 73; rw [hW0.out]; refine (tartanref05_deleteCol.calls k A0 c0 l0 A1 c1 l1 a1 r1 r2 W0 (Kd.C_below HR0.out (HWE.out.trans (HX0.out.lo.mono HWE.out.size))) hc0 (Kd.C_below HR1.out (HWE.out.trans (HX0.out.lo.mono HWE.out.size))) hc1 h1).mono ?_; rintro e w4 ⟨v, v', rfl, ho, ho', hb⟩; obtain ⟨A9, c9, rfl, hc9, hC9⟩ := Kd.R_reads ho; obtain ⟨B9, d9, rfl, hd9, hD9⟩ := Kd.S_reads ho'; have HV := Aside0.mk (tx_R (we := we) (b := 0) HX0.out ho); have HU := Aside0.mk (tx_S (we := we) (b := 0) HX0.out ho'); have HX4 := Aside0.mk (HX0.out.below hb); have hz0 := blk_cell HX4.out.z 0; have hz1 := blk_cell HX4.out.z 1; have hf0 := blk_frozen HX4.out.z 0; have hf1 := blk_frozen HX4.out.z 1; clear ho ho' hb hC9 hD9)
  have HF := Aside0.mk (tx_end HWE.out HX4.out HV.out HU.out)
  have hc0 := blk_cell HF.out.1 0
  have hc1 := blk_cell HF.out.1 1
  refine bodyPost_ret (v := .agg #[.slice A9 r1.length c9, .slice B9 r2.length d9]) (by simp [results, Try.results33, go_sem, hc0, hc1]) rfl ?_
  exact ⟨_, _, _, _, rfl, HF.out.2⟩
set_option maxRecDepth 100000 in
set_option maxHeartbeats 4000000 in
theorem turned_8 (kd : Int) (A0 : Option Addr) (c0 : Nat) (l0 : List ByteArray) (A1 : Option Addr) (c1 : Nat) (l1 : List (List ByteArray)) (a1 a2 : Int) (a3 : ByteArray) (A4 : Option Addr) (c4 : Nat) (l4 : List ByteArray) (A5 : Option Addr) (c5 : Nat) (l5 : List Int) (we w : World) (hwe : Below we.heap.size we w) (hr0 : Kd.C Kd.string we A0 l0.length l0) (hc0 : l0.length ≤ c0) (hr1 : Kd.C (Kd.slice 9 Kd.string) we A1 l1.length l1) (hc1 : l1.length ≤ c1) (hr4 : Kd.C Kd.string we A4 l4.length l4) (hc4 : l4.length ≤ c4) (hr5 : Kd.C (Kd.int .i64) we A5 l5.length l5) (hc5 : l5.length ≤ c5) (n0 : (kd == 0) = false) (m0 : ¬ kd = 0) (n1 : (kd == 1) = false) (m1 : ¬ kd = 1) (n2 : (kd == 2) = false) (m2 : ¬ kd = 2) (n3 : (kd == 3) = false) (m3 : ¬ kd = 3) (n4 : (kd == 4) = false) (m4 : ¬ kd = 4) (n5 : (kd == 5) = false) (m5 : ¬ kd = 5) (n6 : (kd == 6) = false) (m6 : ¬ kd = 6) (n7 : (kd == 7) = false) (m7 : ¬ kd = 7) (k : Nat) (r1 : List ByteArray) (r2 : List (List ByteArray)) (h1 : tartanref05_project.f k l0 l1 l5 = some (r1, r2)) :
    Calls Try.prog 33 #[.agg #[.slice A0 l0.length c0, .slice A1 l1.length c1], .agg #[.int .i64 kd, .int .i64 a1, .int .i64 a2, .string a3, .slice A4 l4.length c4, .slice A5 l5.length c5]] w (ToT we w (r1) (r2)) := by
  obtain ⟨W0, hW0⟩ : ∃ W0, Aside0 (((w.alloc (.cells #[.slice A0 l0.length c0, .slice A1 l1.length c1] 25)).alloc (.cells #[.int .i64 kd, .int .i64 a1, .int .i64 a2, .string a3, .slice A4 l4.length c4, .slice A5 l5.length c5] 28)).alloc (.cells #[.slice none 0 0, .slice none 0 0] 25) = W0) := ⟨_, ⟨rfl⟩⟩
  have HX0 : Aside0 (TX w #[.slice A0 l0.length c0, .slice A1 l1.length c1] #[.int .i64 kd, .int .i64 a1, .int .i64 a2, .string a3, .slice A4 l4.length c4, .slice A5 l5.length c5] W0) := ⟨by rw [← hW0.out]; exact tx_start w _ _⟩
  have HWE := Aside0.mk hwe
  have HR0 := Aside0.mk hr0
  have HR1 := Aside0.mk hr1
  have HR4 := Aside0.mk hr4
  have HR5 := Aside0.mk hr5
  clear hr0 hr1 hr4 hr5 hwe
  go_enter Try.func33, Try.ntmps33
  go_wp2_with (go_at_call 79; rw [hW0.out]; refine (tartanref05_project.calls k A0 c0 l0 A1 c1 l1 A5 c5 l5 r1 r2 W0 (Kd.C_below HR0.out (HWE.out.trans (HX0.out.lo.mono HWE.out.size))) hc0 (Kd.C_below HR1.out (HWE.out.trans (HX0.out.lo.mono HWE.out.size))) hc1 (Kd.C_below HR5.out (HWE.out.trans (HX0.out.lo.mono HWE.out.size))) hc5 h1).mono ?_; rintro e w4 ⟨v, v', rfl, ho, ho', hb⟩; obtain ⟨A9, c9, rfl, hc9, hC9⟩ := Kd.R_reads ho; obtain ⟨B9, d9, rfl, hd9, hD9⟩ := Kd.S_reads ho'; have HV := Aside0.mk (tx_R (we := we) (b := 0) HX0.out ho); have HU := Aside0.mk (tx_S (we := we) (b := 0) HX0.out ho'); have HX4 := Aside0.mk (HX0.out.below hb); have hz0 := blk_cell HX4.out.z 0; have hz1 := blk_cell HX4.out.z 1; have hf0 := blk_frozen HX4.out.z 0; have hf1 := blk_frozen HX4.out.z 1; clear ho ho' hb hC9 hD9)
  have HF := Aside0.mk (tx_end HWE.out HX4.out HV.out HU.out)
  have hc0 := blk_cell HF.out.1 0
  have hc1 := blk_cell HF.out.1 1
  refine bodyPost_ret (v := .agg #[.slice A9 r1.length c9, .slice B9 r2.length d9]) (by simp [results, Try.results33, go_sem, hc0, hc1]) rfl ?_
  exact ⟨_, _, _, _, rfl, HF.out.2⟩
set_option maxRecDepth 100000 in
set_option maxHeartbeats 4000000 in
theorem turned_2 (A0 : Option Addr) (c0 : Nat) (l0 : List ByteArray) (A1 : Option Addr) (c1 : Nat) (l1 : List (List ByteArray)) (a1 a2 : Int) (a3 : ByteArray) (A4 : Option Addr) (c4 : Nat) (l4 : List ByteArray) (A5 : Option Addr) (c5 : Nat) (l5 : List Int) (we w : World) (hwe : Below we.heap.size we w) (hr0 : Kd.C Kd.string we A0 l0.length l0) (hc0 : l0.length ≤ c0) (hr1 : Kd.C (Kd.slice 9 Kd.string) we A1 l1.length l1) (hc1 : l1.length ≤ c1) (hr4 : Kd.C Kd.string we A4 l4.length l4) (hc4 : l4.length ≤ c4) (hr5 : Kd.C (Kd.int .i64) we A5 l5.length l5) (hc5 : l5.length ≤ c5) (k : Nat) (o p : List ByteArray) (h1 : tartanref05_out.f k l0 a1 = some o) (h2 : tartanref05_put.f k o a1 a3 = some p) :
    Calls Try.prog 33 #[.agg #[.slice A0 l0.length c0, .slice A1 l1.length c1], .agg #[.int .i64 2, .int .i64 a1, .int .i64 a2, .string a3, .slice A4 l4.length c4, .slice A5 l5.length c5]] w (ToT we w (p) (l1)) := by
  obtain ⟨W0, hW0⟩ : ∃ W0, Aside0 (((w.alloc (.cells #[.slice A0 l0.length c0, .slice A1 l1.length c1] 25)).alloc (.cells #[.int .i64 2, .int .i64 a1, .int .i64 a2, .string a3, .slice A4 l4.length c4, .slice A5 l5.length c5] 28)).alloc (.cells #[.slice none 0 0, .slice none 0 0] 25) = W0) := ⟨_, ⟨rfl⟩⟩
  have HX0 : Aside0 (TX w #[.slice A0 l0.length c0, .slice A1 l1.length c1] #[.int .i64 2, .int .i64 a1, .int .i64 a2, .string a3, .slice A4 l4.length c4, .slice A5 l5.length c5] W0) := ⟨by rw [← hW0.out]; exact tx_start w _ _⟩
  have HWE := Aside0.mk hwe
  have HR0 := Aside0.mk hr0
  have HR1 := Aside0.mk hr1
  have HR4 := Aside0.mk hr4
  have HR5 := Aside0.mk hr5
  clear hr0 hr1 hr4 hr5 hwe
  go_enter Try.func33, Try.ntmps33
  go_wp2_with fail
  rw [hW0.out]
  refine start_ (n := 14) (S := fun w' => TX w (#[.slice A0 l0.length c0, .slice A1 l1.length c1]) (#[.int .i64 2, .int .i64 a1, .int .i64 a2, .string a3, .slice A4 l4.length c4, .slice A5 l5.length c5]) w') (ds := [13]) #[false, false, false, false, false, false, false, false, false, false, false, false, false, false] (by kernel_rfl) rfl rfl (HX0.out.below (below_drew (Below.refl _ _))) (fun hHeld => ?_)
  generalize hW3 : W0.drew = W3 at hHeld ⊢
  have HX3 := Aside0.mk (hHeld)
  clear hW3
  refine pure_ (i := 0) (N := some 25) (v := ?_) (a' := ?_) #[true, false, false, false, false, false, false, false, false, false, false, false, false, false] rfl rfl (by kernel_rfl) (fun _ _ _ h => h) (Or.inl ⟨by rfl, ?_⟩) ?_ ?_
  rotate_left
  · intro w'
    go_simp
    with_reducible rfl
  rotate_left
  · simp only [Act.put, List.setIfInBounds_toArray, List.set_cons_zero, List.set_cons_succ]
    rfl
  refine take_ (i := 1) (N := some 26) (v := ?_) (a' := ?_) #[true, true, false, false, false, false, false, false, false, false, false, false, false, false] rfl rfl (by kernel_rfl) (fun _ _ _ h => h) (Or.inl ⟨by rfl, ?_⟩) hHeld ?_ ?_
  rotate_left
  · intro w' hS
    have b0 := blk_cell hS.t 0
    have b1 := blk_cell hS.t 1
    have x1 := blk_cell hS.x 1
    have x2 := blk_cell hS.x 2
    have x3 := blk_cell hS.x 3
    have x4 := blk_cell hS.x 4
    clear hS
    go_simp
    with_reducible rfl
  rotate_left
  · simp only [Act.put, List.setIfInBounds_toArray, List.set_cons_zero, List.set_cons_succ]
    rfl
  refine pure_ (i := 2) (N := some 27) (v := ?_) (a' := ?_) #[true, true, true, false, false, false, false, false, false, false, false, false, false, false] rfl rfl (by kernel_rfl) (fun _ _ _ h => h) (Or.inl ⟨by rfl, ?_⟩) ?_ ?_
  rotate_left
  · intro w'
    go_simp
    with_reducible rfl
  rotate_left
  · simp only [Act.put, List.setIfInBounds_toArray, List.set_cons_zero, List.set_cons_succ]
    rfl
  refine take_ (i := 3) (N := some 28) (v := ?_) (a' := ?_) #[true, true, true, true, false, false, false, false, false, false, false, false, false, false] rfl rfl (by kernel_rfl) (fun _ _ _ h => h) (Or.inl ⟨by rfl, ?_⟩) hHeld ?_ ?_
  rotate_left
  · intro w' hS
    have b0 := blk_cell hS.t 0
    have b1 := blk_cell hS.t 1
    have x1 := blk_cell hS.x 1
    have x2 := blk_cell hS.x 2
    have x3 := blk_cell hS.x 3
    have x4 := blk_cell hS.x 4
    clear hS
    go_simp
    with_reducible rfl
  rotate_left
  · simp only [Act.put, List.setIfInBounds_toArray, List.set_cons_zero, List.set_cons_succ]
    rfl
  refine pure_ (i := 5) (N := some 30) (v := ?_) (a' := ?_) #[true, true, true, true, false, true, false, false, false, false, false, false, false, false] rfl rfl (by kernel_rfl) (fun _ _ _ h => h) (Or.inl ⟨by rfl, ?_⟩) ?_ ?_
  rotate_left
  · intro w'
    go_simp
    with_reducible rfl
  rotate_left
  · simp only [Act.put, List.setIfInBounds_toArray, List.set_cons_zero, List.set_cons_succ]
    rfl
  refine take_ (i := 6) (N := some 31) (v := ?_) (a' := ?_) #[true, true, true, true, false, true, true, false, false, false, false, false, false, false] rfl rfl (by kernel_rfl) (fun _ _ _ h => h) (Or.inl ⟨by rfl, ?_⟩) hHeld ?_ ?_
  rotate_left
  · intro w' hS
    have b0 := blk_cell hS.t 0
    have b1 := blk_cell hS.t 1
    have x1 := blk_cell hS.x 1
    have x2 := blk_cell hS.x 2
    have x3 := blk_cell hS.x 3
    have x4 := blk_cell hS.x 4
    clear hS
    go_simp
    with_reducible rfl
  rotate_left
  · simp only [Act.put, List.setIfInBounds_toArray, List.set_cons_zero, List.set_cons_succ]
    rfl
  refine pure_ (i := 7) (N := some 32) (v := ?_) (a' := ?_) #[true, true, true, true, false, true, true, true, false, false, false, false, false, false] rfl rfl (by kernel_rfl) (fun _ _ _ h => h) (Or.inl ⟨by rfl, ?_⟩) ?_ ?_
  rotate_left
  · intro w'
    go_simp
    with_reducible rfl
  rotate_left
  · simp only [Act.put, List.setIfInBounds_toArray, List.set_cons_zero, List.set_cons_succ]
    rfl
  refine take_ (i := 8) (N := some 33) (v := ?_) (a' := ?_) #[true, true, true, true, false, true, true, true, true, false, false, false, false, false] rfl rfl (by kernel_rfl) (fun _ _ _ h => h) (Or.inl ⟨by rfl, ?_⟩) hHeld ?_ ?_
  rotate_left
  · intro w' hS
    have b0 := blk_cell hS.t 0
    have b1 := blk_cell hS.t 1
    have x1 := blk_cell hS.x 1
    have x2 := blk_cell hS.x 2
    have x3 := blk_cell hS.x 3
    have x4 := blk_cell hS.x 4
    clear hS
    go_simp
    with_reducible rfl
  rotate_left
  · simp only [Act.put, List.setIfInBounds_toArray, List.set_cons_zero, List.set_cons_succ]
    rfl
  refine pure_ (i := 10) (N := some 35) (v := ?_) (a' := ?_) #[true, true, true, true, false, true, true, true, true, false, true, false, false, false] rfl rfl (by kernel_rfl) (fun _ _ _ h => h) (Or.inl ⟨by rfl, ?_⟩) ?_ ?_
  rotate_left
  · intro w'
    go_simp
    with_reducible rfl
  rotate_left
  · simp only [Act.put, List.setIfInBounds_toArray, List.set_cons_zero, List.set_cons_succ]
    rfl
  refine take_ (i := 11) (N := some 36) (v := ?_) (a' := ?_) #[true, true, true, true, false, true, true, true, true, false, true, true, false, false] rfl rfl (by kernel_rfl) (fun _ _ _ h => h) (Or.inl ⟨by rfl, ?_⟩) hHeld ?_ ?_
  rotate_left
  · intro w' hS
    have b0 := blk_cell hS.t 0
    have b1 := blk_cell hS.t 1
    have x1 := blk_cell hS.x 1
    have x2 := blk_cell hS.x 2
    have x3 := blk_cell hS.x 3
    have x4 := blk_cell hS.x 4
    clear hS
    go_simp
    with_reducible rfl
  rotate_left
  · simp only [Act.put, List.setIfInBounds_toArray, List.set_cons_zero, List.set_cons_succ]
    rfl
  refine one_ (i := 4) (N := some 29) #[true, true, true, true, true, true, true, true, true, false, true, true, false, false] rfl rfl (by kernel_rfl) (by decide) (fun K hK => ?_)
  refine goes_ Try.func75 (by kernel_rfl) rfl #[.slice A0 l0.length c0, .int .i64 a1] (by rfl) rfl rfl (by (try simp only [List.map_toArray, List.map_cons, List.map_nil]); first | done | rfl) ?_
  refine (tartanref05_out.calls k A0 c0 l0 a1 o _ (Kd.C_below HR0.out (HWE.out.trans (HX3.out.lo.mono HWE.out.size))) hc0 h1).mono ?_
  rintro e w4_ ⟨v, rfl, ho, hb⟩
  obtain ⟨A29, c29, rfl, hc29, hC29⟩ := Kd.R_reads ho
  have HC29 := Aside0.mk hC29
  have HV29 := Aside0.mk (tx_R (we := we) (b := 0) HX3.out ho)
  refine ⟨_, rfl, ?_⟩
  have HX4 := Aside0.mk (HX3.out.below hb)
  clear ho hb hC29
  refine hK.out _ _ HX4.out (fun hHeld => ?_)
  clear hK K
  refine norm_ (a' := ?_) ?_ ?_
  rotate_left
  · show Act.put _ (some 29) _ = _
    simp only [Act.put, List.setIfInBounds_toArray, List.set_cons_zero, List.set_cons_succ]
    rfl
  refine one_ (i := 9) (N := some 34) #[true, true, true, true, true, true, true, true, true, true, true, true, false, false] rfl rfl (by kernel_rfl) (by decide) (fun K hK => ?_)
  refine goes_ Try.func74 (by kernel_rfl) rfl #[.slice A29 o.length c29, .int .i64 a1, .string a3] (by rfl) rfl rfl (by (try simp only [List.map_toArray, List.map_cons, List.map_nil]); first | done | rfl) ?_
  refine (tartanref05_put.calls k A29 c29 o a1 a3 p _ HC29.out hc29 h2).mono ?_
  rintro e w5_ ⟨v, rfl, ho, hb⟩
  obtain ⟨A34, c34, rfl, hc34, hC34⟩ := Kd.R_reads ho
  have HC34 := Aside0.mk hC34
  have HV34 := Aside0.mk (tx_R (we := we) (b := 0) HX4.out ho)
  refine ⟨_, rfl, ?_⟩
  have HX5 := Aside0.mk (HX4.out.below hb)
  clear ho hb hC34
  refine hK.out _ _ HX5.out (fun hHeld => ?_)
  clear hK K
  refine norm_ (a' := ?_) ?_ ?_
  rotate_left
  · show Act.put _ (some 34) _ = _
    simp only [Act.put, List.setIfInBounds_toArray, List.set_cons_zero, List.set_cons_succ]
    rfl
  have HVR := Aside0.mk (tx_C (Kd.heap_slice 9 Kd.heap_string) 22 0 HX5.out HWE.out HR1.out hc1)
  refine pure_ (i := 12) (N := some 37) (v := ?_) (a' := ?_) #[true, true, true, true, true, true, true, true, true, true, true, true, true, false] rfl rfl (by kernel_rfl) (fun _ _ _ h => h) (Or.inl ⟨by rfl, ?_⟩) ?_ ?_
  rotate_left
  · intro w'
    go_simp
    with_reducible rfl
  rotate_left
  · simp only [Act.put, List.setIfInBounds_toArray, List.set_cons_zero, List.set_cons_succ]
    rfl
  have hz0 := blk_cell HX5.out.z 0
  have hz1 := blk_cell HX5.out.z 1
  have hf0 := blk_frozen HX5.out.z 0
  have hf1 := blk_frozen HX5.out.z 1
  refine last_ (i := 13) (N := none) #[true, true, true, true, true, true, true, true, true, true, true, true, true, true] rfl rfl (by kernel_rfl) (by decide) (fun K hK => ?_)
  refine skip_ (w1 := (w5_.setCell ⟨w.heap.size + 1 + 1, 0, none⟩ (.slice A34 p.length c34)).setCell ⟨w.heap.size + 1 + 1, 1, none⟩ (.slice A1 l1.length c1)) rfl rfl ?hr2 ?_
  case hr2 => first | (go_simp; done) | (go_simp; rfl)
  refine hK.out _ _ ?_
  clear hK K
  refine done_ (by kernel_rfl) ?_
  clear hHeld hz0 hz1 hf0 hf1
  go_wp2
  have HF := Aside0.mk (tx_end HWE.out HX5.out HV34.out HVR.out)
  have hc0 := blk_cell HF.out.1 0
  have hc1 := blk_cell HF.out.1 1
  refine bodyPost_ret (v := .agg #[.slice A34 p.length c34, .slice A1 l1.length c1]) (by simp [results, Try.results33, go_sem, hc0, hc1]) rfl ?_
  exact ⟨_, _, _, _, rfl, HF.out.2⟩
set_option maxRecDepth 100000 in
set_option maxHeartbeats 4000000 in
theorem turned_4 (A0 : Option Addr) (c0 : Nat) (l0 : List ByteArray) (A1 : Option Addr) (c1 : Nat) (l1 : List (List ByteArray)) (a1 a2 : Int) (a3 : ByteArray) (A4 : Option Addr) (c4 : Nat) (l4 : List ByteArray) (A5 : Option Addr) (c5 : Nat) (l5 : List Int) (we w : World) (hwe : Below we.heap.size we w) (hr0 : Kd.C Kd.string we A0 l0.length l0) (hc0 : l0.length ≤ c0) (hr1 : Kd.C (Kd.slice 9 Kd.string) we A1 l1.length l1) (hc1 : l1.length ≤ c1) (hr4 : Kd.C Kd.string we A4 l4.length l4) (hc4 : l4.length ≤ c4) (hr5 : Kd.C (Kd.int .i64) we A5 l5.length l5) (hc5 : l5.length ≤ c5) (k : Nat) (o : List (List ByteArray)) (h1 : tartanref05_putRow.f k l1 a1 l4 = some o) :
    Calls Try.prog 33 #[.agg #[.slice A0 l0.length c0, .slice A1 l1.length c1], .agg #[.int .i64 4, .int .i64 a1, .int .i64 a2, .string a3, .slice A4 l4.length c4, .slice A5 l5.length c5]] w (ToT we w (l0) (o)) := by
  obtain ⟨W0, hW0⟩ : ∃ W0, Aside0 (((w.alloc (.cells #[.slice A0 l0.length c0, .slice A1 l1.length c1] 25)).alloc (.cells #[.int .i64 4, .int .i64 a1, .int .i64 a2, .string a3, .slice A4 l4.length c4, .slice A5 l5.length c5] 28)).alloc (.cells #[.slice none 0 0, .slice none 0 0] 25) = W0) := ⟨_, ⟨rfl⟩⟩
  have HX0 : Aside0 (TX w #[.slice A0 l0.length c0, .slice A1 l1.length c1] #[.int .i64 4, .int .i64 a1, .int .i64 a2, .string a3, .slice A4 l4.length c4, .slice A5 l5.length c5] W0) := ⟨by rw [← hW0.out]; exact tx_start w _ _⟩
  have HWE := Aside0.mk hwe
  have HR0 := Aside0.mk hr0
  have HR1 := Aside0.mk hr1
  have HR4 := Aside0.mk hr4
  have HR5 := Aside0.mk hr5
  clear hr0 hr1 hr4 hr5 hwe
  go_enter Try.func33, Try.ntmps33
  go_wp2_with fail
  rw [hW0.out]
  refine start_ (n := 11) (S := fun w' => TX w (#[.slice A0 l0.length c0, .slice A1 l1.length c1]) (#[.int .i64 4, .int .i64 a1, .int .i64 a2, .string a3, .slice A4 l4.length c4, .slice A5 l5.length c5]) w') (ds := [10]) #[false, false, false, false, false, false, false, false, false, false, false] (by kernel_rfl) rfl rfl (HX0.out.below (below_drew (Below.refl _ _))) (fun hHeld => ?_)
  generalize hW3 : W0.drew = W3 at hHeld ⊢
  have HX3 := Aside0.mk (hHeld)
  clear hW3
  refine pure_ (i := 0) (N := some 59) (v := ?_) (a' := ?_) #[true, false, false, false, false, false, false, false, false, false, false] rfl rfl (by kernel_rfl) (fun _ _ _ h => h) (Or.inl ⟨by rfl, ?_⟩) ?_ ?_
  rotate_left
  · intro w'
    go_simp
    with_reducible rfl
  rotate_left
  · simp only [Act.put, List.setIfInBounds_toArray, List.set_cons_zero, List.set_cons_succ]
    rfl
  refine take_ (i := 1) (N := some 60) (v := ?_) (a' := ?_) #[true, true, false, false, false, false, false, false, false, false, false] rfl rfl (by kernel_rfl) (fun _ _ _ h => h) (Or.inl ⟨by rfl, ?_⟩) hHeld ?_ ?_
  rotate_left
  · intro w' hS
    have b0 := blk_cell hS.t 0
    have b1 := blk_cell hS.t 1
    have x1 := blk_cell hS.x 1
    have x2 := blk_cell hS.x 2
    have x3 := blk_cell hS.x 3
    have x4 := blk_cell hS.x 4
    clear hS
    go_simp
    with_reducible rfl
  rotate_left
  · simp only [Act.put, List.setIfInBounds_toArray, List.set_cons_zero, List.set_cons_succ]
    rfl
  refine pure_ (i := 2) (N := some 61) (v := ?_) (a' := ?_) #[true, true, true, false, false, false, false, false, false, false, false] rfl rfl (by kernel_rfl) (fun _ _ _ h => h) (Or.inl ⟨by rfl, ?_⟩) ?_ ?_
  rotate_left
  · intro w'
    go_simp
    with_reducible rfl
  rotate_left
  · simp only [Act.put, List.setIfInBounds_toArray, List.set_cons_zero, List.set_cons_succ]
    rfl
  refine take_ (i := 3) (N := some 62) (v := ?_) (a' := ?_) #[true, true, true, true, false, false, false, false, false, false, false] rfl rfl (by kernel_rfl) (fun _ _ _ h => h) (Or.inl ⟨by rfl, ?_⟩) hHeld ?_ ?_
  rotate_left
  · intro w' hS
    have b0 := blk_cell hS.t 0
    have b1 := blk_cell hS.t 1
    have x1 := blk_cell hS.x 1
    have x2 := blk_cell hS.x 2
    have x3 := blk_cell hS.x 3
    have x4 := blk_cell hS.x 4
    clear hS
    go_simp
    with_reducible rfl
  rotate_left
  · simp only [Act.put, List.setIfInBounds_toArray, List.set_cons_zero, List.set_cons_succ]
    rfl
  refine pure_ (i := 4) (N := some 63) (v := ?_) (a' := ?_) #[true, true, true, true, true, false, false, false, false, false, false] rfl rfl (by kernel_rfl) (fun _ _ _ h => h) (Or.inl ⟨by rfl, ?_⟩) ?_ ?_
  rotate_left
  · intro w'
    go_simp
    with_reducible rfl
  rotate_left
  · simp only [Act.put, List.setIfInBounds_toArray, List.set_cons_zero, List.set_cons_succ]
    rfl
  refine take_ (i := 5) (N := some 64) (v := ?_) (a' := ?_) #[true, true, true, true, true, true, false, false, false, false, false] rfl rfl (by kernel_rfl) (fun _ _ _ h => h) (Or.inl ⟨by rfl, ?_⟩) hHeld ?_ ?_
  rotate_left
  · intro w' hS
    have b0 := blk_cell hS.t 0
    have b1 := blk_cell hS.t 1
    have x1 := blk_cell hS.x 1
    have x2 := blk_cell hS.x 2
    have x3 := blk_cell hS.x 3
    have x4 := blk_cell hS.x 4
    clear hS
    go_simp
    with_reducible rfl
  rotate_left
  · simp only [Act.put, List.setIfInBounds_toArray, List.set_cons_zero, List.set_cons_succ]
    rfl
  refine pure_ (i := 6) (N := some 65) (v := ?_) (a' := ?_) #[true, true, true, true, true, true, true, false, false, false, false] rfl rfl (by kernel_rfl) (fun _ _ _ h => h) (Or.inl ⟨by rfl, ?_⟩) ?_ ?_
  rotate_left
  · intro w'
    go_simp
    with_reducible rfl
  rotate_left
  · simp only [Act.put, List.setIfInBounds_toArray, List.set_cons_zero, List.set_cons_succ]
    rfl
  refine take_ (i := 7) (N := some 66) (v := ?_) (a' := ?_) #[true, true, true, true, true, true, true, true, false, false, false] rfl rfl (by kernel_rfl) (fun _ _ _ h => h) (Or.inl ⟨by rfl, ?_⟩) hHeld ?_ ?_
  rotate_left
  · intro w' hS
    have b0 := blk_cell hS.t 0
    have b1 := blk_cell hS.t 1
    have x1 := blk_cell hS.x 1
    have x2 := blk_cell hS.x 2
    have x3 := blk_cell hS.x 3
    have x4 := blk_cell hS.x 4
    clear hS
    go_simp
    with_reducible rfl
  rotate_left
  · simp only [Act.put, List.setIfInBounds_toArray, List.set_cons_zero, List.set_cons_succ]
    rfl
  refine one_ (i := 8) (N := some 67) #[true, true, true, true, true, true, true, true, true, false, false] rfl rfl (by kernel_rfl) (by decide) (fun K hK => ?_)
  refine goes_ Try.func77 (by kernel_rfl) rfl #[.slice A1 l1.length c1, .int .i64 a1, .slice A4 l4.length c4] (by rfl) rfl rfl (by (try simp only [List.map_toArray, List.map_cons, List.map_nil]); first | done | rfl) ?_
  refine (tartanref05_putRow.calls k (fun k_ => k_ < we.heap.size ∨ w.heap.size + 1 + 1 < k_) A1 c1 l1 a1 (fun k_ => k_ < we.heap.size ∨ w.heap.size + 1 + 1 < k_) A4 c4 l4 o _ (tx_C (Kd.heap_slice 9 Kd.heap_string) 22 _ HX3.out HWE.out HR1.out hc1) (tx_C Kd.heap_string 9 _ HX3.out HWE.out HR4.out hc4) h1).mono ?_
  rintro e w4_ ⟨v, rfl, ho, hb⟩
  obtain ⟨A67, c67, rfl⟩ := Kd.N_slice ho
  have HV67 := Aside0.mk (tx_N (we := we) (b := 0) HX3.out ho)
  refine ⟨_, rfl, ?_⟩
  have HX4 := Aside0.mk (HX3.out.below hb)
  clear ho hb
  refine hK.out _ _ HX4.out (fun hHeld => ?_)
  clear hK K
  refine norm_ (a' := ?_) ?_ ?_
  rotate_left
  · show Act.put _ (some 67) _ = _
    simp only [Act.put, List.setIfInBounds_toArray, List.set_cons_zero, List.set_cons_succ]
    rfl
  have HVH := Aside0.mk (tx_C Kd.heap_string 9 0 HX4.out HWE.out HR0.out hc0)
  refine pure_ (i := 9) (N := some 68) (v := ?_) (a' := ?_) #[true, true, true, true, true, true, true, true, true, true, false] rfl rfl (by kernel_rfl) (fun _ _ _ h => h) (Or.inl ⟨by rfl, ?_⟩) ?_ ?_
  rotate_left
  · intro w'
    go_simp
    with_reducible rfl
  rotate_left
  · simp only [Act.put, List.setIfInBounds_toArray, List.set_cons_zero, List.set_cons_succ]
    rfl
  have hz0 := blk_cell HX4.out.z 0
  have hz1 := blk_cell HX4.out.z 1
  have hf0 := blk_frozen HX4.out.z 0
  have hf1 := blk_frozen HX4.out.z 1
  refine last_ (i := 10) (N := none) #[true, true, true, true, true, true, true, true, true, true, true] rfl rfl (by kernel_rfl) (by decide) (fun K hK => ?_)
  refine skip_ (w1 := (w4_.setCell ⟨w.heap.size + 1 + 1, 0, none⟩ (.slice A0 l0.length c0)).setCell ⟨w.heap.size + 1 + 1, 1, none⟩ (.slice A67 o.length c67)) rfl rfl ?hr2 ?_
  case hr2 => first | (go_simp; done) | (go_simp; rfl)
  refine hK.out _ _ ?_
  clear hK K
  refine done_ (by kernel_rfl) ?_
  clear hHeld hz0 hz1 hf0 hf1
  go_wp2
  have HF := Aside0.mk (tx_end HWE.out HX4.out HVH.out HV67.out)
  have hc0 := blk_cell HF.out.1 0
  have hc1 := blk_cell HF.out.1 1
  refine bodyPost_ret (v := .agg #[.slice A0 l0.length c0, .slice A67 o.length c67]) (by simp [results, Try.results33, go_sem, hc0, hc1]) rfl ?_
  exact ⟨_, _, _, _, rfl, HF.out.2⟩
set_option maxRecDepth 100000 in
set_option maxHeartbeats 4000000 in
theorem turned_5 (A0 : Option Addr) (c0 : Nat) (l0 : List ByteArray) (A1 : Option Addr) (c1 : Nat) (l1 : List (List ByteArray)) (a1 a2 : Int) (a3 : ByteArray) (A4 : Option Addr) (c4 : Nat) (l4 : List ByteArray) (A5 : Option Addr) (c5 : Nat) (l5 : List Int) (we w : World) (hwe : Below we.heap.size we w) (hr0 : Kd.C Kd.string we A0 l0.length l0) (hc0 : l0.length ≤ c0) (hr1 : Kd.C (Kd.slice 9 Kd.string) we A1 l1.length l1) (hc1 : l1.length ≤ c1) (hr4 : Kd.C Kd.string we A4 l4.length l4) (hc4 : l4.length ≤ c4) (hr5 : Kd.C (Kd.int .i64) we A5 l5.length l5) (hc5 : l5.length ≤ c5) (k : Nat) (o : List (List ByteArray)) (h1 : tartanref05_outRow.f k l1 a1 = some o) :
    Calls Try.prog 33 #[.agg #[.slice A0 l0.length c0, .slice A1 l1.length c1], .agg #[.int .i64 5, .int .i64 a1, .int .i64 a2, .string a3, .slice A4 l4.length c4, .slice A5 l5.length c5]] w (ToT we w (l0) (o)) := by
  obtain ⟨W0, hW0⟩ : ∃ W0, Aside0 (((w.alloc (.cells #[.slice A0 l0.length c0, .slice A1 l1.length c1] 25)).alloc (.cells #[.int .i64 5, .int .i64 a1, .int .i64 a2, .string a3, .slice A4 l4.length c4, .slice A5 l5.length c5] 28)).alloc (.cells #[.slice none 0 0, .slice none 0 0] 25) = W0) := ⟨_, ⟨rfl⟩⟩
  have HX0 : Aside0 (TX w #[.slice A0 l0.length c0, .slice A1 l1.length c1] #[.int .i64 5, .int .i64 a1, .int .i64 a2, .string a3, .slice A4 l4.length c4, .slice A5 l5.length c5] W0) := ⟨by rw [← hW0.out]; exact tx_start w _ _⟩
  have HWE := Aside0.mk hwe
  have HR0 := Aside0.mk hr0
  have HR1 := Aside0.mk hr1
  have HR4 := Aside0.mk hr4
  have HR5 := Aside0.mk hr5
  clear hr0 hr1 hr4 hr5 hwe
  go_enter Try.func33, Try.ntmps33
  go_wp2_with fail
  rw [hW0.out]
  refine start_ (n := 9) (S := fun w' => TX w (#[.slice A0 l0.length c0, .slice A1 l1.length c1]) (#[.int .i64 5, .int .i64 a1, .int .i64 a2, .string a3, .slice A4 l4.length c4, .slice A5 l5.length c5]) w') (ds := [8]) #[false, false, false, false, false, false, false, false, false] (by kernel_rfl) rfl rfl (HX0.out.below (below_drew (Below.refl _ _))) (fun hHeld => ?_)
  generalize hW3 : W0.drew = W3 at hHeld ⊢
  have HX3 := Aside0.mk (hHeld)
  clear hW3
  refine pure_ (i := 0) (N := some 71) (v := ?_) (a' := ?_) #[true, false, false, false, false, false, false, false, false] rfl rfl (by kernel_rfl) (fun _ _ _ h => h) (Or.inl ⟨by rfl, ?_⟩) ?_ ?_
  rotate_left
  · intro w'
    go_simp
    with_reducible rfl
  rotate_left
  · simp only [Act.put, List.setIfInBounds_toArray, List.set_cons_zero, List.set_cons_succ]
    rfl
  refine take_ (i := 1) (N := some 72) (v := ?_) (a' := ?_) #[true, true, false, false, false, false, false, false, false] rfl rfl (by kernel_rfl) (fun _ _ _ h => h) (Or.inl ⟨by rfl, ?_⟩) hHeld ?_ ?_
  rotate_left
  · intro w' hS
    have b0 := blk_cell hS.t 0
    have b1 := blk_cell hS.t 1
    have x1 := blk_cell hS.x 1
    have x2 := blk_cell hS.x 2
    have x3 := blk_cell hS.x 3
    have x4 := blk_cell hS.x 4
    clear hS
    go_simp
    with_reducible rfl
  rotate_left
  · simp only [Act.put, List.setIfInBounds_toArray, List.set_cons_zero, List.set_cons_succ]
    rfl
  refine pure_ (i := 2) (N := some 73) (v := ?_) (a' := ?_) #[true, true, true, false, false, false, false, false, false] rfl rfl (by kernel_rfl) (fun _ _ _ h => h) (Or.inl ⟨by rfl, ?_⟩) ?_ ?_
  rotate_left
  · intro w'
    go_simp
    with_reducible rfl
  rotate_left
  · simp only [Act.put, List.setIfInBounds_toArray, List.set_cons_zero, List.set_cons_succ]
    rfl
  refine take_ (i := 3) (N := some 74) (v := ?_) (a' := ?_) #[true, true, true, true, false, false, false, false, false] rfl rfl (by kernel_rfl) (fun _ _ _ h => h) (Or.inl ⟨by rfl, ?_⟩) hHeld ?_ ?_
  rotate_left
  · intro w' hS
    have b0 := blk_cell hS.t 0
    have b1 := blk_cell hS.t 1
    have x1 := blk_cell hS.x 1
    have x2 := blk_cell hS.x 2
    have x3 := blk_cell hS.x 3
    have x4 := blk_cell hS.x 4
    clear hS
    go_simp
    with_reducible rfl
  rotate_left
  · simp only [Act.put, List.setIfInBounds_toArray, List.set_cons_zero, List.set_cons_succ]
    rfl
  refine pure_ (i := 4) (N := some 75) (v := ?_) (a' := ?_) #[true, true, true, true, true, false, false, false, false] rfl rfl (by kernel_rfl) (fun _ _ _ h => h) (Or.inl ⟨by rfl, ?_⟩) ?_ ?_
  rotate_left
  · intro w'
    go_simp
    with_reducible rfl
  rotate_left
  · simp only [Act.put, List.setIfInBounds_toArray, List.set_cons_zero, List.set_cons_succ]
    rfl
  refine take_ (i := 5) (N := some 76) (v := ?_) (a' := ?_) #[true, true, true, true, true, true, false, false, false] rfl rfl (by kernel_rfl) (fun _ _ _ h => h) (Or.inl ⟨by rfl, ?_⟩) hHeld ?_ ?_
  rotate_left
  · intro w' hS
    have b0 := blk_cell hS.t 0
    have b1 := blk_cell hS.t 1
    have x1 := blk_cell hS.x 1
    have x2 := blk_cell hS.x 2
    have x3 := blk_cell hS.x 3
    have x4 := blk_cell hS.x 4
    clear hS
    go_simp
    with_reducible rfl
  rotate_left
  · simp only [Act.put, List.setIfInBounds_toArray, List.set_cons_zero, List.set_cons_succ]
    rfl
  refine one_ (i := 6) (N := some 77) #[true, true, true, true, true, true, true, false, false] rfl rfl (by kernel_rfl) (by decide) (fun K hK => ?_)
  refine goes_ Try.func78 (by kernel_rfl) rfl #[.slice A1 l1.length c1, .int .i64 a1] (by rfl) rfl rfl (by (try simp only [List.map_toArray, List.map_cons, List.map_nil]); first | done | rfl) ?_
  refine (tartanref05_outRow.calls k (fun k_ => k_ < we.heap.size ∨ w.heap.size + 1 + 1 < k_) A1 c1 l1 a1 o _ (tx_C (Kd.heap_slice 9 Kd.heap_string) 22 _ HX3.out HWE.out HR1.out hc1) h1).mono ?_
  rintro e w4_ ⟨v, rfl, ho, hb⟩
  obtain ⟨A77, c77, rfl⟩ := Kd.N_slice ho
  have HV77 := Aside0.mk (tx_N1 (we := we) (b := 0) HX3.out ho)
  refine ⟨_, rfl, ?_⟩
  have HX4 := Aside0.mk (HX3.out.below hb)
  clear ho hb
  refine hK.out _ _ HX4.out (fun hHeld => ?_)
  clear hK K
  refine norm_ (a' := ?_) ?_ ?_
  rotate_left
  · show Act.put _ (some 77) _ = _
    simp only [Act.put, List.setIfInBounds_toArray, List.set_cons_zero, List.set_cons_succ]
    rfl
  have HVH := Aside0.mk (tx_C Kd.heap_string 9 0 HX4.out HWE.out HR0.out hc0)
  refine pure_ (i := 7) (N := some 78) (v := ?_) (a' := ?_) #[true, true, true, true, true, true, true, true, false] rfl rfl (by kernel_rfl) (fun _ _ _ h => h) (Or.inl ⟨by rfl, ?_⟩) ?_ ?_
  rotate_left
  · intro w'
    go_simp
    with_reducible rfl
  rotate_left
  · simp only [Act.put, List.setIfInBounds_toArray, List.set_cons_zero, List.set_cons_succ]
    rfl
  have hz0 := blk_cell HX4.out.z 0
  have hz1 := blk_cell HX4.out.z 1
  have hf0 := blk_frozen HX4.out.z 0
  have hf1 := blk_frozen HX4.out.z 1
  refine last_ (i := 8) (N := none) #[true, true, true, true, true, true, true, true, true] rfl rfl (by kernel_rfl) (by decide) (fun K hK => ?_)
  refine skip_ (w1 := (w4_.setCell ⟨w.heap.size + 1 + 1, 0, none⟩ (.slice A0 l0.length c0)).setCell ⟨w.heap.size + 1 + 1, 1, none⟩ (.slice A77 o.length c77)) rfl rfl ?hr2 ?_
  case hr2 => first | (go_simp; done) | (go_simp; rfl)
  refine hK.out _ _ ?_
  clear hK K
  refine done_ (by kernel_rfl) ?_
  clear hHeld hz0 hz1 hf0 hf1
  go_wp2
  have HF := Aside0.mk (tx_end HWE.out HX4.out HVH.out HV77.out)
  have hc0 := blk_cell HF.out.1 0
  have hc1 := blk_cell HF.out.1 1
  refine bodyPost_ret (v := .agg #[.slice A0 l0.length c0, .slice A77 o.length c77]) (by simp [results, Try.results33, go_sem, hc0, hc1]) rfl ?_
  exact ⟨_, _, _, _, rfl, HF.out.2⟩
set_option maxRecDepth 100000 in
set_option maxHeartbeats 4000000 in
theorem turned_6 (A0 : Option Addr) (c0 : Nat) (l0 : List ByteArray) (A1 : Option Addr) (c1 : Nat) (l1 : List (List ByteArray)) (a1 a2 : Int) (a3 : ByteArray) (A4 : Option Addr) (c4 : Nat) (l4 : List ByteArray) (A5 : Option Addr) (c5 : Nat) (l5 : List Int) (we w : World) (hwe : Below we.heap.size we w) (hr0 : Kd.C Kd.string we A0 l0.length l0) (hc0 : l0.length ≤ c0) (hr1 : Kd.C (Kd.slice 9 Kd.string) we A1 l1.length l1) (hc1 : l1.length ≤ c1) (hr4 : Kd.C Kd.string we A4 l4.length l4) (hc4 : l4.length ≤ c4) (hr5 : Kd.C (Kd.int .i64) we A5 l5.length l5) (hc5 : l5.length ≤ c5) (ha : 0 ≤ a1) (hi : a1.toNat < l1.length) (k : Nat) (o p : List (List ByteArray)) (h1 : tartanref05_outRow.f k l1 a1 = some o) (h2 : tartanref05_putRow.f k o a2 (l1.getD a1.toNat []) = some p) :
    Calls Try.prog 33 #[.agg #[.slice A0 l0.length c0, .slice A1 l1.length c1], .agg #[.int .i64 6, .int .i64 a1, .int .i64 a2, .string a3, .slice A4 l4.length c4, .slice A5 l5.length c5]] w (ToT we w (l0) (p)) := by
  obtain ⟨W0, hW0⟩ : ∃ W0, Aside0 (((w.alloc (.cells #[.slice A0 l0.length c0, .slice A1 l1.length c1] 25)).alloc (.cells #[.int .i64 6, .int .i64 a1, .int .i64 a2, .string a3, .slice A4 l4.length c4, .slice A5 l5.length c5] 28)).alloc (.cells #[.slice none 0 0, .slice none 0 0] 25) = W0) := ⟨_, ⟨rfl⟩⟩
  have HX0 : Aside0 (TX w #[.slice A0 l0.length c0, .slice A1 l1.length c1] #[.int .i64 6, .int .i64 a1, .int .i64 a2, .string a3, .slice A4 l4.length c4, .slice A5 l5.length c5] W0) := ⟨by rw [← hW0.out]; exact tx_start w _ _⟩
  have HWE := Aside0.mk hwe
  have HR0 := Aside0.mk hr0
  have HR1 := Aside0.mk hr1
  have HR4 := Aside0.mk hr4
  have HR5 := Aside0.mk hr5
  have HH2 := Aside0.mk h2
  clear h2
  obtain ⟨ad, Ax, cx, e, hxc, hcx, hCx⟩ := rowAt hr1 hi
  subst e
  obtain ⟨xr, hxr⟩ : ∃ xr, Aside0 (xr = l1.getD a1.toNat []) := ⟨_, ⟨rfl⟩⟩
  rw [← hxr.out] at hxc hcx hCx HH2
  have HXC := Aside0.mk hxc
  have HCX := Aside0.mk hCx
  obtain ⟨j, rfl⟩ : ∃ j : Nat, a1 = (j : Int) := ⟨a1.toNat, by omega⟩
  rw [Int.toNat_natCast] at HXC hi
  have hiI : 0 ≤ (j : Int) ∧ (j : Int) < (l1.length : Int) := by omega
  clear hxc hCx hi hxr
  clear hr0 hr1 hr4 hr5 hwe
  go_enter Try.func33, Try.ntmps33
  go_wp2_with fail
  rw [hW0.out]
  refine start_ (n := 18) (S := fun w' => TX w (#[.slice A0 l0.length c0, .slice (some ad) l1.length c1]) (#[.int .i64 6, .int .i64 (j : Int), .int .i64 a2, .string a3, .slice A4 l4.length c4, .slice A5 l5.length c5]) w' ∧ w'.cell? (ad.add j) = some (.slice Ax xr.length cx)) (ds := [17]) #[false, false, false, false, false, false, false, false, false, false, false, false, false, false, false, false, false, false] (by kernel_rfl) rfl rfl ⟨HX0.out.below (below_drew (Below.refl _ _)), pw_cell_below (HWE.out.trans ((HX0.out.below (below_drew (Below.refl _ _))).lo.mono HWE.out.size)) HXC.out⟩ (fun hHeld => ?_)
  generalize hW3 : W0.drew = W3 at hHeld ⊢
  have HX3 := Aside0.mk (hHeld.1)
  clear hW3
  refine pure_ (i := 0) (N := some 81) (v := ?_) (a' := ?_) #[true, false, false, false, false, false, false, false, false, false, false, false, false, false, false, false, false, false] rfl rfl (by kernel_rfl) (fun _ _ _ h => h) (Or.inl ⟨by rfl, ?_⟩) ?_ ?_
  rotate_left
  · intro w'
    go_simp
    with_reducible rfl
  rotate_left
  · simp only [Act.put, List.setIfInBounds_toArray, List.set_cons_zero, List.set_cons_succ]
    rfl
  refine take_ (i := 1) (N := some 82) (v := ?_) (a' := ?_) #[true, true, false, false, false, false, false, false, false, false, false, false, false, false, false, false, false, false] rfl rfl (by kernel_rfl) (fun _ _ _ h => h) (Or.inl ⟨by rfl, ?_⟩) hHeld ?_ ?_
  rotate_left
  · intro w' hS
    have b0 := blk_cell hS.1.t 0
    have b1 := blk_cell hS.1.t 1
    have x1 := blk_cell hS.1.x 1
    have x2 := blk_cell hS.1.x 2
    have x3 := blk_cell hS.1.x 3
    have x4 := blk_cell hS.1.x 4
    have e0 := hS.2
    clear hS
    go_simp
    with_reducible rfl
  rotate_left
  · simp only [Act.put, List.setIfInBounds_toArray, List.set_cons_zero, List.set_cons_succ]
    rfl
  refine pure_ (i := 2) (N := some 83) (v := ?_) (a' := ?_) #[true, true, true, false, false, false, false, false, false, false, false, false, false, false, false, false, false, false] rfl rfl (by kernel_rfl) (fun _ _ _ h => h) (Or.inl ⟨by rfl, ?_⟩) ?_ ?_
  rotate_left
  · intro w'
    go_simp
    with_reducible rfl
  rotate_left
  · simp only [Act.put, List.setIfInBounds_toArray, List.set_cons_zero, List.set_cons_succ]
    rfl
  refine take_ (i := 3) (N := some 84) (v := ?_) (a' := ?_) #[true, true, true, true, false, false, false, false, false, false, false, false, false, false, false, false, false, false] rfl rfl (by kernel_rfl) (fun _ _ _ h => h) (Or.inl ⟨by rfl, ?_⟩) hHeld ?_ ?_
  rotate_left
  · intro w' hS
    have b0 := blk_cell hS.1.t 0
    have b1 := blk_cell hS.1.t 1
    have x1 := blk_cell hS.1.x 1
    have x2 := blk_cell hS.1.x 2
    have x3 := blk_cell hS.1.x 3
    have x4 := blk_cell hS.1.x 4
    have e0 := hS.2
    clear hS
    go_simp
    with_reducible rfl
  rotate_left
  · simp only [Act.put, List.setIfInBounds_toArray, List.set_cons_zero, List.set_cons_succ]
    rfl
  refine pure_ (i := 4) (N := some 85) (v := ?_) (a' := ?_) #[true, true, true, true, true, false, false, false, false, false, false, false, false, false, false, false, false, false] rfl rfl (by kernel_rfl) (fun _ _ _ h => h) (Or.inl ⟨by rfl, ?_⟩) ?_ ?_
  rotate_left
  · intro w'
    go_simp
    with_reducible rfl
  rotate_left
  · simp only [Act.put, List.setIfInBounds_toArray, List.set_cons_zero, List.set_cons_succ]
    rfl
  refine take_ (i := 5) (N := some 86) (v := ?_) (a' := ?_) #[true, true, true, true, true, true, false, false, false, false, false, false, false, false, false, false, false, false] rfl rfl (by kernel_rfl) (fun _ _ _ h => h) (Or.inl ⟨by rfl, ?_⟩) hHeld ?_ ?_
  rotate_left
  · intro w' hS
    have b0 := blk_cell hS.1.t 0
    have b1 := blk_cell hS.1.t 1
    have x1 := blk_cell hS.1.x 1
    have x2 := blk_cell hS.1.x 2
    have x3 := blk_cell hS.1.x 3
    have x4 := blk_cell hS.1.x 4
    have e0 := hS.2
    clear hS
    go_simp
    with_reducible rfl
  rotate_left
  · simp only [Act.put, List.setIfInBounds_toArray, List.set_cons_zero, List.set_cons_succ]
    rfl
  refine pure_ (i := 7) (N := some 88) (v := ?_) (a' := ?_) #[true, true, true, true, true, true, false, true, false, false, false, false, false, false, false, false, false, false] rfl rfl (by kernel_rfl) (fun _ _ _ h => h) (Or.inl ⟨by rfl, ?_⟩) ?_ ?_
  rotate_left
  · intro w'
    go_simp
    with_reducible rfl
  rotate_left
  · simp only [Act.put, List.setIfInBounds_toArray, List.set_cons_zero, List.set_cons_succ]
    rfl
  refine take_ (i := 8) (N := some 89) (v := ?_) (a' := ?_) #[true, true, true, true, true, true, false, true, true, false, false, false, false, false, false, false, false, false] rfl rfl (by kernel_rfl) (fun _ _ _ h => h) (Or.inl ⟨by rfl, ?_⟩) hHeld ?_ ?_
  rotate_left
  · intro w' hS
    have b0 := blk_cell hS.1.t 0
    have b1 := blk_cell hS.1.t 1
    have x1 := blk_cell hS.1.x 1
    have x2 := blk_cell hS.1.x 2
    have x3 := blk_cell hS.1.x 3
    have x4 := blk_cell hS.1.x 4
    have e0 := hS.2
    clear hS
    go_simp
    with_reducible rfl
  rotate_left
  · simp only [Act.put, List.setIfInBounds_toArray, List.set_cons_zero, List.set_cons_succ]
    rfl
  refine pure_ (i := 9) (N := some 90) (v := ?_) (a' := ?_) #[true, true, true, true, true, true, false, true, true, true, false, false, false, false, false, false, false, false] rfl rfl (by kernel_rfl) (fun _ _ _ h => h) (Or.inl ⟨by rfl, ?_⟩) ?_ ?_
  rotate_left
  · intro w'
    go_simp
    with_reducible rfl
  rotate_left
  · simp only [Act.put, List.setIfInBounds_toArray, List.set_cons_zero, List.set_cons_succ]
    rfl
  refine take_ (i := 10) (N := some 91) (v := ?_) (a' := ?_) #[true, true, true, true, true, true, false, true, true, true, true, false, false, false, false, false, false, false] rfl rfl (by kernel_rfl) (fun _ _ _ h => h) (Or.inl ⟨by rfl, ?_⟩) hHeld ?_ ?_
  rotate_left
  · intro w' hS
    have b0 := blk_cell hS.1.t 0
    have b1 := blk_cell hS.1.t 1
    have x1 := blk_cell hS.1.x 1
    have x2 := blk_cell hS.1.x 2
    have x3 := blk_cell hS.1.x 3
    have x4 := blk_cell hS.1.x 4
    have e0 := hS.2
    clear hS
    go_simp
    with_reducible rfl
  rotate_left
  · simp only [Act.put, List.setIfInBounds_toArray, List.set_cons_zero, List.set_cons_succ]
    rfl
  refine pure_ (i := 11) (N := some 92) (v := ?_) (a' := ?_) #[true, true, true, true, true, true, false, true, true, true, true, true, false, false, false, false, false, false] rfl rfl (by kernel_rfl) (fun _ _ _ h => h) (Or.inl ⟨by rfl, ?_⟩) ?_ ?_
  rotate_left
  · intro w'
    go_simp
    with_reducible rfl
  rotate_left
  · simp only [Act.put, List.setIfInBounds_toArray, List.set_cons_zero, List.set_cons_succ]
    rfl
  refine take_ (i := 12) (N := some 93) (v := ?_) (a' := ?_) #[true, true, true, true, true, true, false, true, true, true, true, true, true, false, false, false, false, false] rfl rfl (by kernel_rfl) (fun _ _ _ h => h) (Or.inl ⟨by rfl, ?_⟩) hHeld ?_ ?_
  rotate_left
  · intro w' hS
    have b0 := blk_cell hS.1.t 0
    have b1 := blk_cell hS.1.t 1
    have x1 := blk_cell hS.1.x 1
    have x2 := blk_cell hS.1.x 2
    have x3 := blk_cell hS.1.x 3
    have x4 := blk_cell hS.1.x 4
    have e0 := hS.2
    clear hS
    go_simp
    with_reducible rfl
  rotate_left
  · simp only [Act.put, List.setIfInBounds_toArray, List.set_cons_zero, List.set_cons_succ]
    rfl
  refine pure_ (i := 13) (N := some 94) (v := ?_) (a' := ?_) #[true, true, true, true, true, true, false, true, true, true, true, true, true, true, false, false, false, false] rfl rfl (by kernel_rfl) (fun _ _ _ h => h) (Or.inl ⟨by rfl, ?_⟩) ?_ ?_
  rotate_left
  · intro w'
    go_simp
    with_reducible rfl
  rotate_left
  · simp only [Act.put, List.setIfInBounds_toArray, List.set_cons_zero, List.set_cons_succ]
    rfl
  refine take_ (i := 14) (N := some 95) (v := ?_) (a' := ?_) #[true, true, true, true, true, true, false, true, true, true, true, true, true, true, true, false, false, false] rfl rfl (by kernel_rfl) (fun _ _ _ h => h) (Or.inl ⟨by rfl, ?_⟩) hHeld ?_ ?_
  rotate_left
  · intro w' hS
    have b0 := blk_cell hS.1.t 0
    have b1 := blk_cell hS.1.t 1
    have x1 := blk_cell hS.1.x 1
    have x2 := blk_cell hS.1.x 2
    have x3 := blk_cell hS.1.x 3
    have x4 := blk_cell hS.1.x 4
    have e0 := hS.2
    clear hS
    go_simp
    with_reducible rfl
  rotate_left
  · simp only [Act.put, List.setIfInBounds_toArray, List.set_cons_zero, List.set_cons_succ]
    rfl
  refine one_ (i := 6) (N := some 87) #[true, true, true, true, true, true, true, true, true, true, true, true, true, true, true, false, false, false] rfl rfl (by kernel_rfl) (by decide) (fun K hK => ?_)
  refine goes_ Try.func78 (by kernel_rfl) rfl #[.slice (some ad) l1.length c1, .int .i64 (j : Int)] (by rfl) rfl rfl (by (try simp only [List.map_toArray, List.map_cons, List.map_nil]); first | done | rfl) ?_
  refine (tartanref05_outRow.calls k (fun k_ => k_ < we.heap.size ∨ w.heap.size + 1 + 1 < k_) (some ad) c1 l1 (j : Int) o _ (tx_C (Kd.heap_slice 9 Kd.heap_string) 22 _ HX3.out HWE.out HR1.out hc1) h1).mono ?_
  rintro e w4_ ⟨v, rfl, ho, hb⟩
  obtain ⟨A87, c87, rfl⟩ := Kd.N_slice ho
  have HV87 := Aside0.mk (tx_N1 (we := we) (b := 0) HX3.out ho)
  refine ⟨_, rfl, ?_⟩
  have HX4 := Aside0.mk (HX3.out.below hb)
  have hE4 := pw_cell_below hb hHeld.2
  clear ho hb
  refine hK.out _ _ ⟨HX4.out, hE4⟩ (fun hHeld => ?_)
  clear hK K
  clear hE4
  refine norm_ (a' := ?_) ?_ ?_
  rotate_left
  · show Act.put _ (some 87) _ = _
    simp only [Act.put, List.setIfInBounds_toArray, List.set_cons_zero, List.set_cons_succ]
    rfl
  refine one_ (i := 15) (N := some 96) #[true, true, true, true, true, true, true, true, true, true, true, true, true, true, true, true, false, false] rfl rfl (by kernel_rfl) (by decide) (fun K hK => ?_)
  refine goes_ Try.func77 (by kernel_rfl) rfl #[.slice A87 o.length c87, .int .i64 a2, .slice Ax xr.length cx] (by rfl) rfl rfl (by (try simp only [List.map_toArray, List.map_cons, List.map_nil]); first | done | rfl) ?_
  refine (tartanref05_putRow.calls k (fun k_ => k_ < we.heap.size ∨ w.heap.size + 1 + 1 < k_) A87 c87 o a2 (fun k_ => k_ < we.heap.size ∨ w.heap.size + 1 + 1 < k_) Ax cx xr p _ (reb HV87.out) (tx_C Kd.heap_string 9 _ HX4.out HWE.out HCX.out hcx) HH2.out).mono ?_
  rintro e w5_ ⟨v, rfl, ho, hb⟩
  obtain ⟨A96, c96, rfl⟩ := Kd.N_slice ho
  have HV96 := Aside0.mk (tx_N (we := we) (b := 0) HX4.out ho)
  refine ⟨_, rfl, ?_⟩
  have HX5 := Aside0.mk (HX4.out.below hb)
  have hE5 := pw_cell_below hb hHeld.2
  clear ho hb
  refine hK.out _ _ ⟨HX5.out, hE5⟩ (fun hHeld => ?_)
  clear hK K
  clear hE5
  refine norm_ (a' := ?_) ?_ ?_
  rotate_left
  · show Act.put _ (some 96) _ = _
    simp only [Act.put, List.setIfInBounds_toArray, List.set_cons_zero, List.set_cons_succ]
    rfl
  have HVH := Aside0.mk (tx_C Kd.heap_string 9 0 HX5.out HWE.out HR0.out hc0)
  refine pure_ (i := 16) (N := some 97) (v := ?_) (a' := ?_) #[true, true, true, true, true, true, true, true, true, true, true, true, true, true, true, true, true, false] rfl rfl (by kernel_rfl) (fun _ _ _ h => h) (Or.inl ⟨by rfl, ?_⟩) ?_ ?_
  rotate_left
  · intro w'
    go_simp
    with_reducible rfl
  rotate_left
  · simp only [Act.put, List.setIfInBounds_toArray, List.set_cons_zero, List.set_cons_succ]
    rfl
  have hz0 := blk_cell HX5.out.z 0
  have hz1 := blk_cell HX5.out.z 1
  have hf0 := blk_frozen HX5.out.z 0
  have hf1 := blk_frozen HX5.out.z 1
  refine last_ (i := 17) (N := none) #[true, true, true, true, true, true, true, true, true, true, true, true, true, true, true, true, true, true] rfl rfl (by kernel_rfl) (by decide) (fun K hK => ?_)
  refine skip_ (w1 := (w5_.setCell ⟨w.heap.size + 1 + 1, 0, none⟩ (.slice A0 l0.length c0)).setCell ⟨w.heap.size + 1 + 1, 1, none⟩ (.slice A96 p.length c96)) rfl rfl ?hr2 ?_
  case hr2 => first | (go_simp; done) | (go_simp; rfl)
  refine hK.out _ _ ?_
  clear hK K
  refine done_ (by kernel_rfl) ?_
  clear hHeld hz0 hz1 hf0 hf1
  go_wp2
  have HF := Aside0.mk (tx_end HWE.out HX5.out HVH.out HV96.out)
  have hc0 := blk_cell HF.out.1 0
  have hc1 := blk_cell HF.out.1 1
  refine bodyPost_ret (v := .agg #[.slice A0 l0.length c0, .slice A96 p.length c96]) (by simp [results, Try.results33, go_sem, hc0, hc1]) rfl ?_
  exact ⟨_, _, _, _, rfl, HF.out.2⟩
set_option maxRecDepth 100000 in
set_option maxHeartbeats 4000000 in
theorem turned_7 (A0 : Option Addr) (c0 : Nat) (l0 : List ByteArray) (A1 : Option Addr) (c1 : Nat) (l1 : List (List ByteArray)) (a1 a2 : Int) (a3 : ByteArray) (A4 : Option Addr) (c4 : Nat) (l4 : List ByteArray) (A5 : Option Addr) (c5 : Nat) (l5 : List Int) (we w : World) (hwe : Below we.heap.size we w) (hr0 : Kd.C Kd.string we A0 l0.length l0) (hc0 : l0.length ≤ c0) (hr1 : Kd.C (Kd.slice 9 Kd.string) we A1 l1.length l1) (hc1 : l1.length ≤ c1) (hr4 : Kd.C Kd.string we A4 l4.length l4) (hc4 : l4.length ≤ c4) (hr5 : Kd.C (Kd.int .i64) we A5 l5.length l5) (hc5 : l5.length ≤ c5) (ha : 0 ≤ a1) (hi : a1.toNat < l1.length) (k : Nat) (o p : List (List ByteArray)) (q y : List ByteArray) (h1 : tartanref05_outRow.f k l1 a1 = some o) (h2 : tartanref05_out.f k (l1.getD a1.toNat []) a2 = some q) (h3 : tartanref05_put.f k q a2 a3 = some y) (h4 : tartanref05_putRow.f k o a1 y = some p) :
    Calls Try.prog 33 #[.agg #[.slice A0 l0.length c0, .slice A1 l1.length c1], .agg #[.int .i64 7, .int .i64 a1, .int .i64 a2, .string a3, .slice A4 l4.length c4, .slice A5 l5.length c5]] w (ToT we w (l0) (p)) := by
  obtain ⟨W0, hW0⟩ : ∃ W0, Aside0 (((w.alloc (.cells #[.slice A0 l0.length c0, .slice A1 l1.length c1] 25)).alloc (.cells #[.int .i64 7, .int .i64 a1, .int .i64 a2, .string a3, .slice A4 l4.length c4, .slice A5 l5.length c5] 28)).alloc (.cells #[.slice none 0 0, .slice none 0 0] 25) = W0) := ⟨_, ⟨rfl⟩⟩
  have HX0 : Aside0 (TX w #[.slice A0 l0.length c0, .slice A1 l1.length c1] #[.int .i64 7, .int .i64 a1, .int .i64 a2, .string a3, .slice A4 l4.length c4, .slice A5 l5.length c5] W0) := ⟨by rw [← hW0.out]; exact tx_start w _ _⟩
  have HWE := Aside0.mk hwe
  have HR0 := Aside0.mk hr0
  have HR1 := Aside0.mk hr1
  have HR4 := Aside0.mk hr4
  have HR5 := Aside0.mk hr5
  have HH2 := Aside0.mk h2
  clear h2
  obtain ⟨ad, Ax, cx, e, hxc, hcx, hCx⟩ := rowAt hr1 hi
  subst e
  obtain ⟨xr, hxr⟩ : ∃ xr, Aside0 (xr = l1.getD a1.toNat []) := ⟨_, ⟨rfl⟩⟩
  rw [← hxr.out] at hxc hcx hCx HH2
  have HXC := Aside0.mk hxc
  have HCX := Aside0.mk hCx
  obtain ⟨j, rfl⟩ : ∃ j : Nat, a1 = (j : Int) := ⟨a1.toNat, by omega⟩
  rw [Int.toNat_natCast] at HXC hi
  have hiI : 0 ≤ (j : Int) ∧ (j : Int) < (l1.length : Int) := by omega
  clear hxc hCx hi hxr
  clear hr0 hr1 hr4 hr5 hwe
  go_enter Try.func33, Try.ntmps33
  go_wp2_with fail
  rw [hW0.out]
  refine start_ (n := 26) (S := fun w' => TX w (#[.slice A0 l0.length c0, .slice (some ad) l1.length c1]) (#[.int .i64 7, .int .i64 (j : Int), .int .i64 a2, .string a3, .slice A4 l4.length c4, .slice A5 l5.length c5]) w' ∧ w'.cell? (ad.add j) = some (.slice Ax xr.length cx)) (ds := [25]) #[false, false, false, false, false, false, false, false, false, false, false, false, false, false, false, false, false, false, false, false, false, false, false, false, false, false] (by kernel_rfl) rfl rfl ⟨HX0.out.below (below_drew (Below.refl _ _)), pw_cell_below (HWE.out.trans ((HX0.out.below (below_drew (Below.refl _ _))).lo.mono HWE.out.size)) HXC.out⟩ (fun hHeld => ?_)
  generalize hW3 : W0.drew = W3 at hHeld ⊢
  have HX3 := Aside0.mk (hHeld.1)
  clear hW3
  refine pure_ (i := 0) (N := some 100) (v := ?_) (a' := ?_) #[true, false, false, false, false, false, false, false, false, false, false, false, false, false, false, false, false, false, false, false, false, false, false, false, false, false] rfl rfl (by kernel_rfl) (fun _ _ _ h => h) (Or.inl ⟨by rfl, ?_⟩) ?_ ?_
  rotate_left
  · intro w'
    go_simp
    with_reducible rfl
  rotate_left
  · simp only [Act.put, List.setIfInBounds_toArray, List.set_cons_zero, List.set_cons_succ]
    rfl
  refine take_ (i := 1) (N := some 101) (v := ?_) (a' := ?_) #[true, true, false, false, false, false, false, false, false, false, false, false, false, false, false, false, false, false, false, false, false, false, false, false, false, false] rfl rfl (by kernel_rfl) (fun _ _ _ h => h) (Or.inl ⟨by rfl, ?_⟩) hHeld ?_ ?_
  rotate_left
  · intro w' hS
    have b0 := blk_cell hS.1.t 0
    have b1 := blk_cell hS.1.t 1
    have x1 := blk_cell hS.1.x 1
    have x2 := blk_cell hS.1.x 2
    have x3 := blk_cell hS.1.x 3
    have x4 := blk_cell hS.1.x 4
    have e0 := hS.2
    clear hS
    go_simp
    with_reducible rfl
  rotate_left
  · simp only [Act.put, List.setIfInBounds_toArray, List.set_cons_zero, List.set_cons_succ]
    rfl
  refine pure_ (i := 2) (N := some 102) (v := ?_) (a' := ?_) #[true, true, true, false, false, false, false, false, false, false, false, false, false, false, false, false, false, false, false, false, false, false, false, false, false, false] rfl rfl (by kernel_rfl) (fun _ _ _ h => h) (Or.inl ⟨by rfl, ?_⟩) ?_ ?_
  rotate_left
  · intro w'
    go_simp
    with_reducible rfl
  rotate_left
  · simp only [Act.put, List.setIfInBounds_toArray, List.set_cons_zero, List.set_cons_succ]
    rfl
  refine take_ (i := 3) (N := some 103) (v := ?_) (a' := ?_) #[true, true, true, true, false, false, false, false, false, false, false, false, false, false, false, false, false, false, false, false, false, false, false, false, false, false] rfl rfl (by kernel_rfl) (fun _ _ _ h => h) (Or.inl ⟨by rfl, ?_⟩) hHeld ?_ ?_
  rotate_left
  · intro w' hS
    have b0 := blk_cell hS.1.t 0
    have b1 := blk_cell hS.1.t 1
    have x1 := blk_cell hS.1.x 1
    have x2 := blk_cell hS.1.x 2
    have x3 := blk_cell hS.1.x 3
    have x4 := blk_cell hS.1.x 4
    have e0 := hS.2
    clear hS
    go_simp
    with_reducible rfl
  rotate_left
  · simp only [Act.put, List.setIfInBounds_toArray, List.set_cons_zero, List.set_cons_succ]
    rfl
  refine pure_ (i := 4) (N := some 104) (v := ?_) (a' := ?_) #[true, true, true, true, true, false, false, false, false, false, false, false, false, false, false, false, false, false, false, false, false, false, false, false, false, false] rfl rfl (by kernel_rfl) (fun _ _ _ h => h) (Or.inl ⟨by rfl, ?_⟩) ?_ ?_
  rotate_left
  · intro w'
    go_simp
    with_reducible rfl
  rotate_left
  · simp only [Act.put, List.setIfInBounds_toArray, List.set_cons_zero, List.set_cons_succ]
    rfl
  refine take_ (i := 5) (N := some 105) (v := ?_) (a' := ?_) #[true, true, true, true, true, true, false, false, false, false, false, false, false, false, false, false, false, false, false, false, false, false, false, false, false, false] rfl rfl (by kernel_rfl) (fun _ _ _ h => h) (Or.inl ⟨by rfl, ?_⟩) hHeld ?_ ?_
  rotate_left
  · intro w' hS
    have b0 := blk_cell hS.1.t 0
    have b1 := blk_cell hS.1.t 1
    have x1 := blk_cell hS.1.x 1
    have x2 := blk_cell hS.1.x 2
    have x3 := blk_cell hS.1.x 3
    have x4 := blk_cell hS.1.x 4
    have e0 := hS.2
    clear hS
    go_simp
    with_reducible rfl
  rotate_left
  · simp only [Act.put, List.setIfInBounds_toArray, List.set_cons_zero, List.set_cons_succ]
    rfl
  refine pure_ (i := 7) (N := some 107) (v := ?_) (a' := ?_) #[true, true, true, true, true, true, false, true, false, false, false, false, false, false, false, false, false, false, false, false, false, false, false, false, false, false] rfl rfl (by kernel_rfl) (fun _ _ _ h => h) (Or.inl ⟨by rfl, ?_⟩) ?_ ?_
  rotate_left
  · intro w'
    go_simp
    with_reducible rfl
  rotate_left
  · simp only [Act.put, List.setIfInBounds_toArray, List.set_cons_zero, List.set_cons_succ]
    rfl
  refine take_ (i := 8) (N := some 108) (v := ?_) (a' := ?_) #[true, true, true, true, true, true, false, true, true, false, false, false, false, false, false, false, false, false, false, false, false, false, false, false, false, false] rfl rfl (by kernel_rfl) (fun _ _ _ h => h) (Or.inl ⟨by rfl, ?_⟩) hHeld ?_ ?_
  rotate_left
  · intro w' hS
    have b0 := blk_cell hS.1.t 0
    have b1 := blk_cell hS.1.t 1
    have x1 := blk_cell hS.1.x 1
    have x2 := blk_cell hS.1.x 2
    have x3 := blk_cell hS.1.x 3
    have x4 := blk_cell hS.1.x 4
    have e0 := hS.2
    clear hS
    go_simp
    with_reducible rfl
  rotate_left
  · simp only [Act.put, List.setIfInBounds_toArray, List.set_cons_zero, List.set_cons_succ]
    rfl
  refine pure_ (i := 9) (N := some 109) (v := ?_) (a' := ?_) #[true, true, true, true, true, true, false, true, true, true, false, false, false, false, false, false, false, false, false, false, false, false, false, false, false, false] rfl rfl (by kernel_rfl) (fun _ _ _ h => h) (Or.inl ⟨by rfl, ?_⟩) ?_ ?_
  rotate_left
  · intro w'
    go_simp
    with_reducible rfl
  rotate_left
  · simp only [Act.put, List.setIfInBounds_toArray, List.set_cons_zero, List.set_cons_succ]
    rfl
  refine take_ (i := 10) (N := some 110) (v := ?_) (a' := ?_) #[true, true, true, true, true, true, false, true, true, true, true, false, false, false, false, false, false, false, false, false, false, false, false, false, false, false] rfl rfl (by kernel_rfl) (fun _ _ _ h => h) (Or.inl ⟨by rfl, ?_⟩) hHeld ?_ ?_
  rotate_left
  · intro w' hS
    have b0 := blk_cell hS.1.t 0
    have b1 := blk_cell hS.1.t 1
    have x1 := blk_cell hS.1.x 1
    have x2 := blk_cell hS.1.x 2
    have x3 := blk_cell hS.1.x 3
    have x4 := blk_cell hS.1.x 4
    have e0 := hS.2
    clear hS
    go_simp
    with_reducible rfl
  rotate_left
  · simp only [Act.put, List.setIfInBounds_toArray, List.set_cons_zero, List.set_cons_succ]
    rfl
  refine pure_ (i := 11) (N := some 111) (v := ?_) (a' := ?_) #[true, true, true, true, true, true, false, true, true, true, true, true, false, false, false, false, false, false, false, false, false, false, false, false, false, false] rfl rfl (by kernel_rfl) (fun _ _ _ h => h) (Or.inl ⟨by rfl, ?_⟩) ?_ ?_
  rotate_left
  · intro w'
    go_simp
    with_reducible rfl
  rotate_left
  · simp only [Act.put, List.setIfInBounds_toArray, List.set_cons_zero, List.set_cons_succ]
    rfl
  refine take_ (i := 12) (N := some 112) (v := ?_) (a' := ?_) #[true, true, true, true, true, true, false, true, true, true, true, true, true, false, false, false, false, false, false, false, false, false, false, false, false, false] rfl rfl (by kernel_rfl) (fun _ _ _ h => h) (Or.inl ⟨by rfl, ?_⟩) hHeld ?_ ?_
  rotate_left
  · intro w' hS
    have b0 := blk_cell hS.1.t 0
    have b1 := blk_cell hS.1.t 1
    have x1 := blk_cell hS.1.x 1
    have x2 := blk_cell hS.1.x 2
    have x3 := blk_cell hS.1.x 3
    have x4 := blk_cell hS.1.x 4
    have e0 := hS.2
    clear hS
    go_simp
    with_reducible rfl
  rotate_left
  · simp only [Act.put, List.setIfInBounds_toArray, List.set_cons_zero, List.set_cons_succ]
    rfl
  refine pure_ (i := 13) (N := some 113) (v := ?_) (a' := ?_) #[true, true, true, true, true, true, false, true, true, true, true, true, true, true, false, false, false, false, false, false, false, false, false, false, false, false] rfl rfl (by kernel_rfl) (fun _ _ _ h => h) (Or.inl ⟨by rfl, ?_⟩) ?_ ?_
  rotate_left
  · intro w'
    go_simp
    with_reducible rfl
  rotate_left
  · simp only [Act.put, List.setIfInBounds_toArray, List.set_cons_zero, List.set_cons_succ]
    rfl
  refine take_ (i := 14) (N := some 114) (v := ?_) (a' := ?_) #[true, true, true, true, true, true, false, true, true, true, true, true, true, true, true, false, false, false, false, false, false, false, false, false, false, false] rfl rfl (by kernel_rfl) (fun _ _ _ h => h) (Or.inl ⟨by rfl, ?_⟩) hHeld ?_ ?_
  rotate_left
  · intro w' hS
    have b0 := blk_cell hS.1.t 0
    have b1 := blk_cell hS.1.t 1
    have x1 := blk_cell hS.1.x 1
    have x2 := blk_cell hS.1.x 2
    have x3 := blk_cell hS.1.x 3
    have x4 := blk_cell hS.1.x 4
    have e0 := hS.2
    clear hS
    go_simp
    with_reducible rfl
  rotate_left
  · simp only [Act.put, List.setIfInBounds_toArray, List.set_cons_zero, List.set_cons_succ]
    rfl
  refine pure_ (i := 15) (N := some 115) (v := ?_) (a' := ?_) #[true, true, true, true, true, true, false, true, true, true, true, true, true, true, true, true, false, false, false, false, false, false, false, false, false, false] rfl rfl (by kernel_rfl) (fun _ _ _ h => h) (Or.inl ⟨by rfl, ?_⟩) ?_ ?_
  rotate_left
  · intro w'
    go_simp
    with_reducible rfl
  rotate_left
  · simp only [Act.put, List.setIfInBounds_toArray, List.set_cons_zero, List.set_cons_succ]
    rfl
  refine take_ (i := 16) (N := some 116) (v := ?_) (a' := ?_) #[true, true, true, true, true, true, false, true, true, true, true, true, true, true, true, true, true, false, false, false, false, false, false, false, false, false] rfl rfl (by kernel_rfl) (fun _ _ _ h => h) (Or.inl ⟨by rfl, ?_⟩) hHeld ?_ ?_
  rotate_left
  · intro w' hS
    have b0 := blk_cell hS.1.t 0
    have b1 := blk_cell hS.1.t 1
    have x1 := blk_cell hS.1.x 1
    have x2 := blk_cell hS.1.x 2
    have x3 := blk_cell hS.1.x 3
    have x4 := blk_cell hS.1.x 4
    have e0 := hS.2
    clear hS
    go_simp
    with_reducible rfl
  rotate_left
  · simp only [Act.put, List.setIfInBounds_toArray, List.set_cons_zero, List.set_cons_succ]
    rfl
  refine pure_ (i := 18) (N := some 118) (v := ?_) (a' := ?_) #[true, true, true, true, true, true, false, true, true, true, true, true, true, true, true, true, true, false, true, false, false, false, false, false, false, false] rfl rfl (by kernel_rfl) (fun _ _ _ h => h) (Or.inl ⟨by rfl, ?_⟩) ?_ ?_
  rotate_left
  · intro w'
    go_simp
    with_reducible rfl
  rotate_left
  · simp only [Act.put, List.setIfInBounds_toArray, List.set_cons_zero, List.set_cons_succ]
    rfl
  refine take_ (i := 19) (N := some 119) (v := ?_) (a' := ?_) #[true, true, true, true, true, true, false, true, true, true, true, true, true, true, true, true, true, false, true, true, false, false, false, false, false, false] rfl rfl (by kernel_rfl) (fun _ _ _ h => h) (Or.inl ⟨by rfl, ?_⟩) hHeld ?_ ?_
  rotate_left
  · intro w' hS
    have b0 := blk_cell hS.1.t 0
    have b1 := blk_cell hS.1.t 1
    have x1 := blk_cell hS.1.x 1
    have x2 := blk_cell hS.1.x 2
    have x3 := blk_cell hS.1.x 3
    have x4 := blk_cell hS.1.x 4
    have e0 := hS.2
    clear hS
    go_simp
    with_reducible rfl
  rotate_left
  · simp only [Act.put, List.setIfInBounds_toArray, List.set_cons_zero, List.set_cons_succ]
    rfl
  refine pure_ (i := 20) (N := some 120) (v := ?_) (a' := ?_) #[true, true, true, true, true, true, false, true, true, true, true, true, true, true, true, true, true, false, true, true, true, false, false, false, false, false] rfl rfl (by kernel_rfl) (fun _ _ _ h => h) (Or.inl ⟨by rfl, ?_⟩) ?_ ?_
  rotate_left
  · intro w'
    go_simp
    with_reducible rfl
  rotate_left
  · simp only [Act.put, List.setIfInBounds_toArray, List.set_cons_zero, List.set_cons_succ]
    rfl
  refine take_ (i := 21) (N := some 121) (v := ?_) (a' := ?_) #[true, true, true, true, true, true, false, true, true, true, true, true, true, true, true, true, true, false, true, true, true, true, false, false, false, false] rfl rfl (by kernel_rfl) (fun _ _ _ h => h) (Or.inl ⟨by rfl, ?_⟩) hHeld ?_ ?_
  rotate_left
  · intro w' hS
    have b0 := blk_cell hS.1.t 0
    have b1 := blk_cell hS.1.t 1
    have x1 := blk_cell hS.1.x 1
    have x2 := blk_cell hS.1.x 2
    have x3 := blk_cell hS.1.x 3
    have x4 := blk_cell hS.1.x 4
    have e0 := hS.2
    clear hS
    go_simp
    with_reducible rfl
  rotate_left
  · simp only [Act.put, List.setIfInBounds_toArray, List.set_cons_zero, List.set_cons_succ]
    rfl
  refine one_ (i := 6) (N := some 106) #[true, true, true, true, true, true, true, true, true, true, true, true, true, true, true, true, true, false, true, true, true, true, false, false, false, false] rfl rfl (by kernel_rfl) (by decide) (fun K hK => ?_)
  refine goes_ Try.func78 (by kernel_rfl) rfl #[.slice (some ad) l1.length c1, .int .i64 (j : Int)] (by rfl) rfl rfl (by (try simp only [List.map_toArray, List.map_cons, List.map_nil]); first | done | rfl) ?_
  refine (tartanref05_outRow.calls k (fun k_ => k_ < we.heap.size ∨ w.heap.size + 1 + 1 < k_) (some ad) c1 l1 (j : Int) o _ (tx_C (Kd.heap_slice 9 Kd.heap_string) 22 _ HX3.out HWE.out HR1.out hc1) h1).mono ?_
  rintro e w4_ ⟨v, rfl, ho, hb⟩
  obtain ⟨A106, c106, rfl⟩ := Kd.N_slice ho
  have HV106 := Aside0.mk (tx_N1 (we := we) (b := 0) HX3.out ho)
  refine ⟨_, rfl, ?_⟩
  have HX4 := Aside0.mk (HX3.out.below hb)
  have hE4 := pw_cell_below hb hHeld.2
  clear ho hb
  refine hK.out _ _ ⟨HX4.out, hE4⟩ (fun hHeld => ?_)
  clear hK K
  clear hE4
  refine norm_ (a' := ?_) ?_ ?_
  rotate_left
  · show Act.put _ (some 106) _ = _
    simp only [Act.put, List.setIfInBounds_toArray, List.set_cons_zero, List.set_cons_succ]
    rfl
  refine one_ (i := 17) (N := some 117) #[true, true, true, true, true, true, true, true, true, true, true, true, true, true, true, true, true, true, true, true, true, true, false, false, false, false] rfl rfl (by kernel_rfl) (by decide) (fun K hK => ?_)
  refine goes_ Try.func75 (by kernel_rfl) rfl #[.slice Ax xr.length cx, .int .i64 a2] (by rfl) rfl rfl (by (try simp only [List.map_toArray, List.map_cons, List.map_nil]); first | done | rfl) ?_
  refine (tartanref05_out.calls k Ax cx xr a2 q _ (Kd.C_below HCX.out (HWE.out.trans (HX4.out.lo.mono HWE.out.size))) hcx HH2.out).mono ?_
  rintro e w5_ ⟨v, rfl, ho, hb⟩
  obtain ⟨A117, c117, rfl, hc117, hC117⟩ := Kd.R_reads ho
  have HC117 := Aside0.mk hC117
  have HV117 := Aside0.mk (tx_R (we := we) (b := 0) HX4.out ho)
  refine ⟨_, rfl, ?_⟩
  have HV106' := Aside0.mk (Kd.V_below HV106.out hb)
  clear HV106
  have HV106 := Aside0.mk HV106'.out
  clear HV106'
  have HX5 := Aside0.mk (HX4.out.below hb)
  have hE5 := pw_cell_below hb hHeld.2
  clear ho hb hC117
  refine hK.out _ _ ⟨HX5.out, hE5⟩ (fun hHeld => ?_)
  clear hK K
  clear hE5
  refine norm_ (a' := ?_) ?_ ?_
  rotate_left
  · show Act.put _ (some 117) _ = _
    simp only [Act.put, List.setIfInBounds_toArray, List.set_cons_zero, List.set_cons_succ]
    rfl
  refine one_ (i := 22) (N := some 122) #[true, true, true, true, true, true, true, true, true, true, true, true, true, true, true, true, true, true, true, true, true, true, true, false, false, false] rfl rfl (by kernel_rfl) (by decide) (fun K hK => ?_)
  refine goes_ Try.func74 (by kernel_rfl) rfl #[.slice A117 q.length c117, .int .i64 a2, .string a3] (by rfl) rfl rfl (by (try simp only [List.map_toArray, List.map_cons, List.map_nil]); first | done | rfl) ?_
  refine (tartanref05_put.calls k A117 c117 q a2 a3 y _ HC117.out hc117 h3).mono ?_
  rintro e w6_ ⟨v, rfl, ho, hb⟩
  obtain ⟨A122, c122, rfl, hc122, hC122⟩ := Kd.R_reads ho
  have HC122 := Aside0.mk hC122
  have HV122 := Aside0.mk (tx_R (we := we) (b := 0) HX5.out ho)
  refine ⟨_, rfl, ?_⟩
  have HV106' := Aside0.mk (Kd.V_below HV106.out hb)
  clear HV106
  have HV106 := Aside0.mk HV106'.out
  clear HV106'
  have HX6 := Aside0.mk (HX5.out.below hb)
  have hE6 := pw_cell_below hb hHeld.2
  clear ho hb hC122
  refine hK.out _ _ ⟨HX6.out, hE6⟩ (fun hHeld => ?_)
  clear hK K
  clear hE6
  refine norm_ (a' := ?_) ?_ ?_
  rotate_left
  · show Act.put _ (some 122) _ = _
    simp only [Act.put, List.setIfInBounds_toArray, List.set_cons_zero, List.set_cons_succ]
    rfl
  refine one_ (i := 23) (N := some 123) #[true, true, true, true, true, true, true, true, true, true, true, true, true, true, true, true, true, true, true, true, true, true, true, true, false, false] rfl rfl (by kernel_rfl) (by decide) (fun K hK => ?_)
  refine goes_ Try.func77 (by kernel_rfl) rfl #[.slice A106 o.length c106, .int .i64 (j : Int), .slice A122 y.length c122] (by rfl) rfl rfl (by (try simp only [List.map_toArray, List.map_cons, List.map_nil]); first | done | rfl) ?_
  refine (tartanref05_putRow.calls k (fun k_ => k_ < we.heap.size ∨ w.heap.size + 1 + 1 < k_) A106 c106 o (j : Int) (fun k_ => k_ < we.heap.size ∨ w.heap.size + 1 + 1 < k_) A122 c122 y p _ (reb HV106.out) (reb HV122.out) h4).mono ?_
  rintro e w7_ ⟨v, rfl, ho, hb⟩
  obtain ⟨A123, c123, rfl⟩ := Kd.N_slice ho
  have HV123 := Aside0.mk (tx_N (we := we) (b := 0) HX6.out ho)
  refine ⟨_, rfl, ?_⟩
  have HX7 := Aside0.mk (HX6.out.below hb)
  have hE7 := pw_cell_below hb hHeld.2
  clear ho hb
  refine hK.out _ _ ⟨HX7.out, hE7⟩ (fun hHeld => ?_)
  clear hK K
  clear hE7
  refine norm_ (a' := ?_) ?_ ?_
  rotate_left
  · show Act.put _ (some 123) _ = _
    simp only [Act.put, List.setIfInBounds_toArray, List.set_cons_zero, List.set_cons_succ]
    rfl
  have HVH := Aside0.mk (tx_C Kd.heap_string 9 0 HX7.out HWE.out HR0.out hc0)
  refine pure_ (i := 24) (N := some 124) (v := ?_) (a' := ?_) #[true, true, true, true, true, true, true, true, true, true, true, true, true, true, true, true, true, true, true, true, true, true, true, true, true, false] rfl rfl (by kernel_rfl) (fun _ _ _ h => h) (Or.inl ⟨by rfl, ?_⟩) ?_ ?_
  rotate_left
  · intro w'
    go_simp
    with_reducible rfl
  rotate_left
  · simp only [Act.put, List.setIfInBounds_toArray, List.set_cons_zero, List.set_cons_succ]
    rfl
  have hz0 := blk_cell HX7.out.z 0
  have hz1 := blk_cell HX7.out.z 1
  have hf0 := blk_frozen HX7.out.z 0
  have hf1 := blk_frozen HX7.out.z 1
  refine last_ (i := 25) (N := none) #[true, true, true, true, true, true, true, true, true, true, true, true, true, true, true, true, true, true, true, true, true, true, true, true, true, true] rfl rfl (by kernel_rfl) (by decide) (fun K hK => ?_)
  refine skip_ (w1 := (w7_.setCell ⟨w.heap.size + 1 + 1, 0, none⟩ (.slice A0 l0.length c0)).setCell ⟨w.heap.size + 1 + 1, 1, none⟩ (.slice A123 p.length c123)) rfl rfl ?hr2 ?_
  case hr2 => first | (go_simp; done) | (go_simp; rfl)
  refine hK.out _ _ ?_
  clear hK K
  refine done_ (by kernel_rfl) ?_
  clear hHeld hz0 hz1 hf0 hf1
  go_wp2
  have HF := Aside0.mk (tx_end HWE.out HX7.out HVH.out HV123.out)
  have hc0 := blk_cell HF.out.1 0
  have hc1 := blk_cell HF.out.1 1
  refine bodyPost_ret (v := .agg #[.slice A0 l0.length c0, .slice A123 p.length c123]) (by simp [results, Try.results33, go_sem, hc0, hc1]) rfl ?_
  exact ⟨_, _, _, _, rfl, HF.out.2⟩
set_option maxRecDepth 100000 in
set_option maxHeartbeats 4000000 in
theorem turned_3 (A0 : Option Addr) (c0 : Nat) (l0 : List ByteArray) (A1 : Option Addr) (c1 : Nat) (l1 : List (List ByteArray)) (a1 a2 : Int) (a3 : ByteArray) (A4 : Option Addr) (c4 : Nat) (l4 : List ByteArray) (A5 : Option Addr) (c5 : Nat) (l5 : List Int) (we w : World) (hwe : Below we.heap.size we w) (hr0 : Kd.C Kd.string we A0 l0.length l0) (hc0 : l0.length ≤ c0) (hr1 : Kd.C (Kd.slice 9 Kd.string) we A1 l1.length l1) (hc1 : l1.length ≤ c1) (hr4 : Kd.C Kd.string we A4 l4.length l4) (hc4 : l4.length ≤ c4) (hr5 : Kd.C (Kd.int .i64) we A5 l5.length l5) (hc5 : l5.length ≤ c5) (ha : 0 ≤ a1) (hi : a1.toNat < l0.length) (k : Nat) (d1 : List ByteArray) (d2 : List (List ByteArray)) (q : List ByteArray) (r1 : List ByteArray) (r2 : List (List ByteArray)) (h1 : tartanref05_deleteCol.f k l0 l1 a1 = some (d1, d2)) (h2 : tartanref04_Column.f k l0 l1 a1 = some q) (h3 : tartanref05_insertCol.f k d1 d2 a2 (l0.getD a1.toNat ByteArray.empty) q = some (r1, r2)) :
    Calls Try.prog 33 #[.agg #[.slice A0 l0.length c0, .slice A1 l1.length c1], .agg #[.int .i64 3, .int .i64 a1, .int .i64 a2, .string a3, .slice A4 l4.length c4, .slice A5 l5.length c5]] w (ToT we w (r1) (r2)) := by
  obtain ⟨W0, hW0⟩ : ∃ W0, Aside0 (((w.alloc (.cells #[.slice A0 l0.length c0, .slice A1 l1.length c1] 25)).alloc (.cells #[.int .i64 3, .int .i64 a1, .int .i64 a2, .string a3, .slice A4 l4.length c4, .slice A5 l5.length c5] 28)).alloc (.cells #[.slice none 0 0, .slice none 0 0] 25) = W0) := ⟨_, ⟨rfl⟩⟩
  have HX0 : Aside0 (TX w #[.slice A0 l0.length c0, .slice A1 l1.length c1] #[.int .i64 3, .int .i64 a1, .int .i64 a2, .string a3, .slice A4 l4.length c4, .slice A5 l5.length c5] W0) := ⟨by rw [← hW0.out]; exact tx_start w _ _⟩
  have HWE := Aside0.mk hwe
  have HR0 := Aside0.mk hr0
  have HR1 := Aside0.mk hr1
  have HR4 := Aside0.mk hr4
  have HR5 := Aside0.mk hr5
  have HH3 := Aside0.mk h3
  clear h3
  obtain ⟨ad, e, hsc⟩ := strAtA hr0 hi
  subst e
  obtain ⟨sx, hsx⟩ : ∃ sx, Aside0 (sx = l0.getD a1.toNat ByteArray.empty) := ⟨_, ⟨rfl⟩⟩
  have hsc2 : we.cell? (ad.add a1.toNat) = some (.string sx) := by rw [hsx.out]; exact hsc
  have HSC := Aside0.mk hsc2
  rw [← hsx.out] at HH3
  obtain ⟨j, rfl⟩ : ∃ j : Nat, a1 = (j : Int) := ⟨a1.toNat, by omega⟩
  rw [Int.toNat_natCast] at HSC hi
  have hiI : 0 ≤ (j : Int) ∧ (j : Int) < (l0.length : Int) := by omega
  clear hsc hsc2 hi hsx
  clear hr0 hr1 hr4 hr5 hwe
  go_enter Try.func33, Try.ntmps33
  go_wp2_with fail
  rw [hW0.out]
  refine start_ (n := 18) (S := fun w' => TX w (#[.slice (some ad) l0.length c0, .slice A1 l1.length c1]) (#[.int .i64 3, .int .i64 (j : Int), .int .i64 a2, .string a3, .slice A4 l4.length c4, .slice A5 l5.length c5]) w' ∧ w'.cell? (ad.add j) = some (.string sx)) (ds := [17]) #[false, false, false, false, false, false, false, false, false, false, false, false, false, false, false, false, false, false] (by kernel_rfl) rfl rfl ⟨HX0.out.below (below_drew (Below.refl _ _)), pw_cell_below (HWE.out.trans ((HX0.out.below (below_drew (Below.refl _ _))).lo.mono HWE.out.size)) HSC.out⟩ (fun hHeld => ?_)
  generalize hW3 : W0.drew = W3 at hHeld ⊢
  have HX3 := Aside0.mk (hHeld.1)
  clear hW3
  refine take_ (i := 0) (N := some 40) (v := ?_) (a' := ?_) #[true, false, false, false, false, false, false, false, false, false, false, false, false, false, false, false, false, false] rfl rfl (by kernel_rfl) (fun _ _ _ h => h) (Or.inl ⟨by rfl, ?_⟩) hHeld ?_ ?_
  rotate_left
  · intro w' hS
    have b0 := blk_cell hS.1.t 0
    have b1 := blk_cell hS.1.t 1
    have x1 := blk_cell hS.1.x 1
    have x2 := blk_cell hS.1.x 2
    have x3 := blk_cell hS.1.x 3
    have x4 := blk_cell hS.1.x 4
    have e0 := hS.2
    clear hS
    go_simp
    with_reducible rfl
  rotate_left
  · simp only [Act.put, List.setIfInBounds_toArray, List.set_cons_zero, List.set_cons_succ]
    rfl
  refine pure_ (i := 1) (N := some 41) (v := ?_) (a' := ?_) #[true, true, false, false, false, false, false, false, false, false, false, false, false, false, false, false, false, false] rfl rfl (by kernel_rfl) (fun _ _ _ h => h) (Or.inl ⟨by rfl, ?_⟩) ?_ ?_
  rotate_left
  · intro w'
    go_simp
    with_reducible rfl
  rotate_left
  · simp only [Act.put, List.setIfInBounds_toArray, List.set_cons_zero, List.set_cons_succ]
    rfl
  refine take_ (i := 2) (N := some 42) (v := ?_) (a' := ?_) #[true, true, true, false, false, false, false, false, false, false, false, false, false, false, false, false, false, false] rfl rfl (by kernel_rfl) (fun _ _ _ h => h) (Or.inl ⟨by rfl, ?_⟩) hHeld ?_ ?_
  rotate_left
  · intro w' hS
    have b0 := blk_cell hS.1.t 0
    have b1 := blk_cell hS.1.t 1
    have x1 := blk_cell hS.1.x 1
    have x2 := blk_cell hS.1.x 2
    have x3 := blk_cell hS.1.x 3
    have x4 := blk_cell hS.1.x 4
    have e0 := hS.2
    clear hS
    go_simp
    with_reducible rfl
  rotate_left
  · simp only [Act.put, List.setIfInBounds_toArray, List.set_cons_zero, List.set_cons_succ]
    rfl
  refine pure_ (i := 4) (N := some 44) (v := ?_) (a' := ?_) #[true, true, true, false, true, false, false, false, false, false, false, false, false, false, false, false, false, false] rfl rfl (by kernel_rfl) (fun _ _ _ h => h) (Or.inl ⟨by rfl, ?_⟩) ?_ ?_
  rotate_left
  · intro w'
    go_simp
    with_reducible rfl
  rotate_left
  · simp only [Act.put, List.setIfInBounds_toArray, List.set_cons_zero, List.set_cons_succ]
    rfl
  refine take_ (i := 5) (N := some 45) (v := ?_) (a' := ?_) #[true, true, true, false, true, true, false, false, false, false, false, false, false, false, false, false, false, false] rfl rfl (by kernel_rfl) (fun _ _ _ h => h) (Or.inl ⟨by rfl, ?_⟩) hHeld ?_ ?_
  rotate_left
  · intro w' hS
    have b0 := blk_cell hS.1.t 0
    have b1 := blk_cell hS.1.t 1
    have x1 := blk_cell hS.1.x 1
    have x2 := blk_cell hS.1.x 2
    have x3 := blk_cell hS.1.x 3
    have x4 := blk_cell hS.1.x 4
    have e0 := hS.2
    clear hS
    go_simp
    with_reducible rfl
  rotate_left
  · simp only [Act.put, List.setIfInBounds_toArray, List.set_cons_zero, List.set_cons_succ]
    rfl
  refine pure_ (i := 6) (N := some 46) (v := ?_) (a' := ?_) #[true, true, true, false, true, true, true, false, false, false, false, false, false, false, false, false, false, false] rfl rfl (by kernel_rfl) (fun _ _ _ h => h) (Or.inl ⟨by rfl, ?_⟩) ?_ ?_
  rotate_left
  · intro w'
    go_simp
    with_reducible rfl
  rotate_left
  · simp only [Act.put, List.setIfInBounds_toArray, List.set_cons_zero, List.set_cons_succ]
    rfl
  refine take_ (i := 7) (N := some 47) (v := ?_) (a' := ?_) #[true, true, true, false, true, true, true, true, false, false, false, false, false, false, false, false, false, false] rfl rfl (by kernel_rfl) (fun _ _ _ h => h) (Or.inl ⟨by rfl, ?_⟩) hHeld ?_ ?_
  rotate_left
  · intro w' hS
    have b0 := blk_cell hS.1.t 0
    have b1 := blk_cell hS.1.t 1
    have x1 := blk_cell hS.1.x 1
    have x2 := blk_cell hS.1.x 2
    have x3 := blk_cell hS.1.x 3
    have x4 := blk_cell hS.1.x 4
    have e0 := hS.2
    clear hS
    go_simp
    with_reducible rfl
  rotate_left
  · simp only [Act.put, List.setIfInBounds_toArray, List.set_cons_zero, List.set_cons_succ]
    rfl
  refine pure_ (i := 8) (N := some 48) (v := ?_) (a' := ?_) #[true, true, true, false, true, true, true, true, true, false, false, false, false, false, false, false, false, false] rfl rfl (by kernel_rfl) (fun _ _ _ h => h) (Or.inl ⟨by rfl, ?_⟩) ?_ ?_
  rotate_left
  · intro w'
    go_simp
    with_reducible rfl
  rotate_left
  · simp only [Act.put, List.setIfInBounds_toArray, List.set_cons_zero, List.set_cons_succ]
    rfl
  refine take_ (i := 9) (N := some 49) (v := ?_) (a' := ?_) #[true, true, true, false, true, true, true, true, true, true, false, false, false, false, false, false, false, false] rfl rfl (by kernel_rfl) (fun _ _ _ h => h) (Or.inl ⟨by rfl, ?_⟩) hHeld ?_ ?_
  rotate_left
  · intro w' hS
    have b0 := blk_cell hS.1.t 0
    have b1 := blk_cell hS.1.t 1
    have x1 := blk_cell hS.1.x 1
    have x2 := blk_cell hS.1.x 2
    have x3 := blk_cell hS.1.x 3
    have x4 := blk_cell hS.1.x 4
    have e0 := hS.2
    clear hS
    go_simp
    with_reducible rfl
  rotate_left
  · simp only [Act.put, List.setIfInBounds_toArray, List.set_cons_zero, List.set_cons_succ]
    rfl
  refine pure_ (i := 10) (N := some 50) (v := ?_) (a' := ?_) #[true, true, true, false, true, true, true, true, true, true, true, false, false, false, false, false, false, false] rfl rfl (by kernel_rfl) (fun _ _ _ h => h) (Or.inl ⟨by rfl, ?_⟩) ?_ ?_
  rotate_left
  · intro w'
    go_simp
    with_reducible rfl
  rotate_left
  · simp only [Act.put, List.setIfInBounds_toArray, List.set_cons_zero, List.set_cons_succ]
    rfl
  refine take_ (i := 11) (N := some 51) (v := ?_) (a' := ?_) #[true, true, true, false, true, true, true, true, true, true, true, true, false, false, false, false, false, false] rfl rfl (by kernel_rfl) (fun _ _ _ h => h) (Or.inl ⟨by rfl, ?_⟩) hHeld ?_ ?_
  rotate_left
  · intro w' hS
    have b0 := blk_cell hS.1.t 0
    have b1 := blk_cell hS.1.t 1
    have x1 := blk_cell hS.1.x 1
    have x2 := blk_cell hS.1.x 2
    have x3 := blk_cell hS.1.x 3
    have x4 := blk_cell hS.1.x 4
    have e0 := hS.2
    clear hS
    go_simp
    with_reducible rfl
  rotate_left
  · simp only [Act.put, List.setIfInBounds_toArray, List.set_cons_zero, List.set_cons_succ]
    rfl
  refine take_ (i := 12) (N := some 52) (v := ?_) (a' := ?_) #[true, true, true, false, true, true, true, true, true, true, true, true, true, false, false, false, false, false] rfl rfl (by kernel_rfl) (fun _ _ _ h => h) (Or.inl ⟨by rfl, ?_⟩) hHeld ?_ ?_
  rotate_left
  · intro w' hS
    have b0 := blk_cell hS.1.t 0
    have b1 := blk_cell hS.1.t 1
    have x1 := blk_cell hS.1.x 1
    have x2 := blk_cell hS.1.x 2
    have x3 := blk_cell hS.1.x 3
    have x4 := blk_cell hS.1.x 4
    have e0 := hS.2
    clear hS
    go_simp
    with_reducible rfl
  rotate_left
  · simp only [Act.put, List.setIfInBounds_toArray, List.set_cons_zero, List.set_cons_succ]
    rfl
  refine pure_ (i := 13) (N := some 53) (v := ?_) (a' := ?_) #[true, true, true, false, true, true, true, true, true, true, true, true, true, true, false, false, false, false] rfl rfl (by kernel_rfl) (fun _ _ _ h => h) (Or.inl ⟨by rfl, ?_⟩) ?_ ?_
  rotate_left
  · intro w'
    go_simp
    with_reducible rfl
  rotate_left
  · simp only [Act.put, List.setIfInBounds_toArray, List.set_cons_zero, List.set_cons_succ]
    rfl
  refine take_ (i := 14) (N := some 54) (v := ?_) (a' := ?_) #[true, true, true, false, true, true, true, true, true, true, true, true, true, true, true, false, false, false] rfl rfl (by kernel_rfl) (fun _ _ _ h => h) (Or.inl ⟨by rfl, ?_⟩) hHeld ?_ ?_
  rotate_left
  · intro w' hS
    have b0 := blk_cell hS.1.t 0
    have b1 := blk_cell hS.1.t 1
    have x1 := blk_cell hS.1.x 1
    have x2 := blk_cell hS.1.x 2
    have x3 := blk_cell hS.1.x 3
    have x4 := blk_cell hS.1.x 4
    have e0 := hS.2
    clear hS
    go_simp
    with_reducible rfl
  rotate_left
  · simp only [Act.put, List.setIfInBounds_toArray, List.set_cons_zero, List.set_cons_succ]
    rfl
  refine one_ (i := 3) (N := some 43) #[true, true, true, true, true, true, true, true, true, true, true, true, true, true, true, false, false, false] rfl rfl (by kernel_rfl) (by decide) (fun K hK => ?_)
  refine goes_ Try.func73 (by kernel_rfl) rfl #[.agg #[.slice (some ad) l0.length c0, .slice A1 l1.length c1], .int .i64 (j : Int)] (by rfl) rfl rfl (by (try simp only [List.map_toArray, List.map_cons, List.map_nil]); first | done | rfl) ?_
  refine (tartanref05_deleteCol.calls k (some ad) c0 l0 A1 c1 l1 (j : Int) d1 d2 _ (Kd.C_below HR0.out (HWE.out.trans (HX3.out.lo.mono HWE.out.size))) hc0 (Kd.C_below HR1.out (HWE.out.trans (HX3.out.lo.mono HWE.out.size))) hc1 h1).mono ?_
  rintro e w4_ ⟨v, v', rfl, ho, ho', hb⟩
  obtain ⟨A43, c43, rfl, hc43, hC43⟩ := Kd.R_reads ho
  obtain ⟨B43, d43, rfl, hd43, hD43⟩ := Kd.S_reads ho'
  have HC43 := Aside0.mk hC43
  have HD43 := Aside0.mk hD43
  have HV43 := Aside0.mk (tx_R (we := we) (b := 0) HX3.out ho)
  have HU43 := Aside0.mk (tx_S (we := we) (b := 0) HX3.out ho')
  clear ho' hD43
  refine ⟨_, rfl, ?_⟩
  have HX4 := Aside0.mk (HX3.out.below hb)
  have hE4 := pw_cell_below hb hHeld.2
  clear ho hb hC43
  refine hK.out _ _ ⟨HX4.out, hE4⟩ (fun hHeld => ?_)
  clear hK K
  clear hE4
  refine norm_ (a' := ?_) ?_ ?_
  rotate_left
  · show Act.put _ (some 43) _ = _
    simp only [Act.put, List.setIfInBounds_toArray, List.set_cons_zero, List.set_cons_succ]
    rfl
  refine one_ (i := 15) (N := some 55) #[true, true, true, true, true, true, true, true, true, true, true, true, true, true, true, true, false, false] rfl rfl (by kernel_rfl) (by decide) (fun K hK => ?_)
  refine goes_ Try.func76 (by kernel_rfl) rfl #[.agg #[.slice (some ad) l0.length c0, .slice A1 l1.length c1], .int .i64 (j : Int)] (by rfl) rfl rfl (by (try simp only [List.map_toArray, List.map_cons, List.map_nil]); first | done | rfl) ?_
  refine (tartanref04_Column.calls k (some ad) c0 l0 A1 c1 l1 (j : Int) q _ (Kd.C_below HR0.out (HWE.out.trans (HX4.out.lo.mono HWE.out.size))) hc0 (Kd.C_below HR1.out (HWE.out.trans (HX4.out.lo.mono HWE.out.size))) hc1 h2).mono ?_
  rintro e w5_ ⟨v, rfl, ho, hb⟩
  obtain ⟨A55, c55, rfl, hc55, hC55⟩ := Kd.R_reads ho
  have HC55 := Aside0.mk hC55
  have HV55 := Aside0.mk (tx_R (we := we) (b := 0) HX4.out ho)
  refine ⟨_, rfl, ?_⟩
  have HC43' := Aside0.mk (Kd.C_below HC43.out hb)
  clear HC43
  have HC43 := Aside0.mk HC43'.out
  clear HC43'
  have HD43' := Aside0.mk (Kd.C_below HD43.out hb)
  clear HD43
  have HD43 := Aside0.mk HD43'.out
  clear HD43'
  have HX5 := Aside0.mk (HX4.out.below hb)
  have hE5 := pw_cell_below hb hHeld.2
  clear ho hb hC55
  refine hK.out _ _ ⟨HX5.out, hE5⟩ (fun hHeld => ?_)
  clear hK K
  clear hE5
  refine norm_ (a' := ?_) ?_ ?_
  rotate_left
  · show Act.put _ (some 55) _ = _
    simp only [Act.put, List.setIfInBounds_toArray, List.set_cons_zero, List.set_cons_succ]
    rfl
  refine one_ (i := 16) (N := some 56) #[true, true, true, true, true, true, true, true, true, true, true, true, true, true, true, true, true, false] rfl rfl (by kernel_rfl) (by decide) (fun K hK => ?_)
  refine goes_ Try.func72 (by kernel_rfl) rfl #[.agg #[.slice A43 d1.length c43, .slice B43 d2.length d43], .int .i64 a2, .string sx, .slice A55 q.length c55] (by rfl) rfl rfl (by (try simp only [List.map_toArray, List.map_cons, List.map_nil]); first | done | rfl) ?_
  refine (tartanref05_insertCol.calls k A43 c43 d1 B43 d43 d2 a2 sx A55 c55 q r1 r2 _ HC43.out hc43 HD43.out hd43 HC55.out hc55 HH3.out).mono ?_
  rintro e w6_ ⟨v, v', rfl, ho, ho', hb⟩
  obtain ⟨A56, c56, rfl, hc56, hC56⟩ := Kd.R_reads ho
  obtain ⟨B56, d56, rfl, hd56, hD56⟩ := Kd.S_reads ho'
  have HC56 := Aside0.mk hC56
  have HD56 := Aside0.mk hD56
  have HV56 := Aside0.mk (tx_R (we := we) (b := 0) HX5.out ho)
  have HU56 := Aside0.mk (tx_S (we := we) (b := 0) HX5.out ho')
  clear ho' hD56
  refine ⟨_, rfl, ?_⟩
  have HX6 := Aside0.mk (HX5.out.below hb)
  have hE6 := pw_cell_below hb hHeld.2
  clear ho hb hC56
  refine hK.out _ _ ⟨HX6.out, hE6⟩ (fun hHeld => ?_)
  clear hK K
  clear hE6
  refine norm_ (a' := ?_) ?_ ?_
  rotate_left
  · show Act.put _ (some 56) _ = _
    simp only [Act.put, List.setIfInBounds_toArray, List.set_cons_zero, List.set_cons_succ]
    rfl
  have hz0 := blk_cell HX6.out.z 0
  have hz1 := blk_cell HX6.out.z 1
  have hf0 := blk_frozen HX6.out.z 0
  have hf1 := blk_frozen HX6.out.z 1
  refine last_ (i := 17) (N := none) #[true, true, true, true, true, true, true, true, true, true, true, true, true, true, true, true, true, true] rfl rfl (by kernel_rfl) (by decide) (fun K hK => ?_)
  refine skip_ (w1 := (w6_.setCell ⟨w.heap.size + 1 + 1, 0, none⟩ (.slice A56 r1.length c56)).setCell ⟨w.heap.size + 1 + 1, 1, none⟩ (.slice B56 r2.length d56)) rfl rfl ?hr2 ?_
  case hr2 => first | (go_simp; done) | (go_simp; rfl)
  refine hK.out _ _ ?_
  clear hK K
  refine done_ (by kernel_rfl) ?_
  clear hHeld hz0 hz1 hf0 hf1
  go_wp2
  have HF := Aside0.mk (tx_end HWE.out HX6.out HV56.out HU56.out)
  have hc0 := blk_cell HF.out.1 0
  have hc1 := blk_cell HF.out.1 1
  refine bodyPost_ret (v := .agg #[.slice A56 r1.length c56, .slice B56 r2.length d56]) (by simp [results, Try.results33, go_sem, hc0, hc1]) rfl ?_
  exact ⟨_, _, _, _, rfl, HF.out.2⟩
end Go.Proofs.Ytaolakknkhggnaa.X
end
section
namespace Go.Proofs.Ytaolakknkhggnaa.X
open Go.RowKit Go.Maps Go.Shelf Go.Proofs.YtaolakknkhggnaaW.PrintWords Go.Proofs.YtaolakknkhggnaaW.PrintLast
set_option linter.unusedVariables false
set_option linter.unusedSimpArgs false
def DoT (w : World) (r1 : List ByteArray) (r2 : List (List ByteArray)) (r3 : Int) (e : Ending) (w' : World) : Prop :=
  ∃ (A : Option Addr) (c : Nat) (B : Option Addr) (d : Nat), e = .returned (.tuple #[.agg #[.slice A r1.length c, .slice B r2.length d], .int .i64 r3]) ∧ r1.length ≤ c ∧ r2.length ≤ d ∧ Kd.C Kd.string w' A r1.length r1 ∧ Kd.C (Kd.slice 9 Kd.string) w' B r2.length r2 ∧ Below w.heap.size w w'
theorem tx_nil {w : World} {tc xc : Array Value} {W : World} (h : TX w tc xc W) :
    ((W.setCell ⟨w.heap.size + 1 + 1, 0, none⟩ (.slice none 0 0)).setCell ⟨w.heap.size + 1 + 1, 1, none⟩ (.slice none 0 0)).heap[w.heap.size + 1 + 1]? = some (.cells #[.slice none 0 0, .slice none 0 0] 25 (0, 0)) ∧ Below w.heap.size w ((W.setCell ⟨w.heap.size + 1 + 1, 0, none⟩ (.slice none 0 0)).setCell ⟨w.heap.size + 1 + 1, 1, none⟩ (.slice none 0 0)) :=
  ⟨heap_setCell_same _ _ 1 _ _ _ (heap_setCell_same _ _ 0 _ _ _ h.z), (h.lo.setCell (by show w.heap.size ≤ w.heap.size + 1 + 1; omega) _).setCell (by show w.heap.size ≤ w.heap.size + 1 + 1; omega) _⟩
theorem do_nil (w W : World) (x : Int) (h : Below w.heap.size w W) : DoT w [] [] x (.returned (.tuple #[.agg #[.slice none 0 0, .slice none 0 0], .int .i64 x])) W :=
  ⟨none, 0, none, 0, rfl, Nat.le_refl _, Nat.le_refl _, Kd.C_nil _ _, Kd.C_nil _ _, h⟩
section
variable (kd : Int) (A0 : Option Addr) (c0 : Nat) (l0 : List ByteArray) (A1 : Option Addr) (c1 : Nat) (l1 : List (List ByteArray)) (a1 a2 : Int) (a3 : ByteArray) (A4 : Option Addr) (c4 : Nat) (l4 : List ByteArray) (A5 : Option Addr) (c5 : Nat) (l5 : List Int) (w : World) (hr0 : Kd.C Kd.string w A0 l0.length l0) (hc0 : l0.length ≤ c0) (hr1 : Kd.C (Kd.slice 9 Kd.string) w A1 l1.length l1) (hc1 : l1.length ≤ c1) (hr4 : Kd.C Kd.string w A4 l4.length l4) (hc4 : l4.length ≤ c4) (hr5 : Kd.C (Kd.int .i64) w A5 l5.length l5) (hc5 : l5.length ≤ c5)
include hr0 hc0 hr1 hc1 hr4 hc4 hr5 hc5
set_option maxRecDepth 100000 in
set_option maxHeartbeats 8000000 in
theorem do_ref (k : Nat) (e1 e2 e3 : Int) (r1 : List ByteArray) (r2 : List (List ByteArray)) (h1 : tartanref04_Check.f k l0 l1 = some e1) (h2 : e1 = 0 → tartanref05_wrong.f k l0 l1 kd a1 a2 a3 l4 l5 = some e2)
    (h3 : e1 = 0 → e2 = 0 → ∀ W, Below w.heap.size w W → Calls Try.prog 33 #[.agg #[.slice A0 l0.length c0, .slice A1 l1.length c1], .agg #[.int .i64 kd, .int .i64 a1, .int .i64 a2, .string a3, .slice A4 l4.length c4, .slice A5 l5.length c5]] W (ToT w W r1 r2)) (h4 : e1 = 0 → e2 = 0 → tartanref04_Check.f k r1 r2 = some e3)
    (R : List ByteArray × List (List ByteArray) × Int) (hR : R = if e1 ≠ 0 then ([], [], e1) else if e2 ≠ 0 then ([], [], e2) else if e3 ≠ 0 then ([], [], e3) else (r1, r2, 0)) :
    Calls Try.prog 14 #[.agg #[.slice A0 l0.length c0, .slice A1 l1.length c1], .agg #[.int .i64 kd, .int .i64 a1, .int .i64 a2, .string a3, .slice A4 l4.length c4, .slice A5 l5.length c5]] w (DoT w R.1 R.2.1 R.2.2) := by
  obtain ⟨tc, htc⟩ : ∃ tc : Array Value, tc = #[.slice A0 l0.length c0, .slice A1 l1.length c1] := ⟨_, rfl⟩
  obtain ⟨xc, hxc⟩ : ∃ xc : Array Value, xc = #[.int .i64 kd, .int .i64 a1, .int .i64 a2, .string a3, .slice A4 l4.length c4, .slice A5 l5.length c5] := ⟨_, rfl⟩
  obtain ⟨W0, hW0⟩ : ∃ W0, Aside0 (((w.alloc (.cells #[.slice A0 l0.length c0, .slice A1 l1.length c1] 25)).alloc (.cells #[.int .i64 kd, .int .i64 a1, .int .i64 a2, .string a3, .slice A4 l4.length c4, .slice A5 l5.length c5] 28)).alloc (.cells #[.slice none 0 0, .slice none 0 0] 25) = W0) := ⟨_, ⟨rfl⟩⟩
  have HX0 : Aside0 (TX w #[.slice A0 l0.length c0, .slice A1 l1.length c1] #[.int .i64 kd, .int .i64 a1, .int .i64 a2, .string a3, .slice A4 l4.length c4, .slice A5 l5.length c5] W0) := ⟨by rw [← hW0.out]; exact tx_start w _ _⟩
  have HC1 := Aside0.mk (tartanref04_Check.calls k A0 c0 l0 A1 c1 l1 e1 W0 (Kd.C_below hr0 HX0.out.lo) hc0 (Kd.C_below hr1 HX0.out.lo) hc1 h1)
  have HC2 : Aside0 (e1 = 0 → ∀ W, Below w.heap.size w W → Calls Try.prog 32 #[.agg #[.slice A0 l0.length c0, .slice A1 l1.length c1], .agg #[.int .i64 kd, .int .i64 a1, .int .i64 a2, .string a3, .slice A4 l4.length c4, .slice A5 l5.length c5]] W fun e w' => e = .returned (.int .i64 e2) ∧ Below W.heap.size W w') :=
    ⟨fun he W hW => tartanref05_wrong.calls k A0 c0 l0 A1 c1 l1 kd a1 a2 a3 A4 c4 l4 A5 c5 l5 e2 W (Kd.C_below hr0 hW) hc0 (Kd.C_below hr1 hW) hc1 (Kd.C_below hr4 hW) hc4 (Kd.C_below hr5 hW) hc5 (h2 he)⟩
  have HC3 := Aside0.mk h3
  have HC4 := Aside0.mk h4
  have HRR := Aside0.mk hR
  clear hr0 hr1 hr4 hr5 h1 h2 h3 h4 hR htc hxc
  by_cases q1 : e1 = 0
  · subst q1
    have HD2 := Aside0.mk (HC2.out rfl)
    clear HC2
    by_cases q2 : e2 = 0
    · subst q2
      have HD3 := Aside0.mk (HC3.out rfl rfl)
      have HD4 := Aside0.mk (HC4.out rfl rfl)
      clear HC3 HC4
      have M1 := Aside0.mk trivial
      by_cases q3 : e3 = 0
      · subst q3
        have HE : Aside0 (R = (r1, r2, 0)) := ⟨by rw [HRR.out]; simp⟩
        go_enter Try.func14, Try.ntmps14
        go_wp2_with (first
          | (clear M1; go_at_call 31; rw [hW0.out]; refine HC1.out.mono ?_; rintro e w1 ⟨rfl, hb⟩; have HX1 := Aside0.mk (HX0.out.below hb); have t0 := blk_cell HX1.out.t 0; have t1 := blk_cell HX1.out.t 1; have x0 := blk_cell HX1.out.x 0; have x1 := blk_cell HX1.out.x 1; have x2 := blk_cell HX1.out.x 2; have x3 := blk_cell HX1.out.x 3; have x4 := blk_cell HX1.out.x 4; have x5 := blk_cell HX1.out.x 5; clear hb HC1 HX0; have M2 := Aside0.mk trivial)
          | (go_at_call 32; refine (HD2.out _ HX1.out.lo).mono ?_; rintro e w2 ⟨rfl, hb⟩; have HX2 := Aside0.mk (HX1.out.below hb); clear t0 t1 x0 x1 x2 x3 x4 x5 HX1 hb HD2; have t0 := blk_cell HX2.out.t 0; have t1 := blk_cell HX2.out.t 1; have x0 := blk_cell HX2.out.x 0; have x1 := blk_cell HX2.out.x 1; have x2 := blk_cell HX2.out.x 2; have x3 := blk_cell HX2.out.x 3; have x4 := blk_cell HX2.out.x 4; have x5 := blk_cell HX2.out.x 5)
          | (go_at_call 33; refine (HD3.out _ HX2.out.lo).mono ?_; rintro e w3 ⟨A, c, B, d, rfl, hv, hu, hb⟩; obtain ⟨_, hc, hC⟩ := Kd.V_reads' hv; obtain ⟨_, hd, hD⟩ := Kd.V_reads' hu; have HX3 := Aside0.mk (HX2.out.below hb); have hal := below_alloc (Below.refl w3.heap.size w3) (.cells #[.slice A r1.length c, .slice B r2.length d] 25); have HX3' := Aside0.mk (HX3.out.below hal); have HK4 := Aside0.mk (tartanref04_Check.calls k A c r1 B d r2 0 _ (Kd.C_below hC hal) hc (Kd.C_below hD hal) hd HD4.out); have HV := Aside0.mk (Kd.V_below hv hal); have HU := Aside0.mk (Kd.V_below hu hal); have hZ2 := lt_of_block HX2.out.z; clear t0 t1 x0 x1 x2 x3 x4 x5 HX2 hb HD3 HD4 hC hD hal hv hu)
          | (clear M2; go_at_call 31; refine HK4.out.mono ?_; rintro e w4 ⟨rfl, hb⟩; have HX4 := Aside0.mk (HX3'.out.below hb); have HV4 := Aside0.mk (Kd.V_below HV.out hb); have HU4 := Aside0.mk (Kd.V_below HU.out hb); have HT4 := Aside0.mk ((hb.block _ (by simp)).trans (blk_new w3 (.cells #[.slice A r1.length c, .slice B r2.length d] 25))); have u0 := blk_cell HT4.out 0; have u1 := blk_cell HT4.out 1; have hz0 := blk_cell HX4.out.z 0; have hz1 := blk_cell HX4.out.z 1; have hf0 := blk_frozen HX4.out.z 0; have hf1 := blk_frozen HX4.out.z 1; clear hb HK4))
        have HF : Aside0 (((w4.setCell ⟨w.heap.size + 1 + 1, 0, none⟩ (.slice A r1.length c)).setCell ⟨w.heap.size + 1 + 1, 1, none⟩ (.slice B r2.length d)).heap[w.heap.size + 1 + 1]? = some (.cells #[.slice A r1.length c, .slice B r2.length d] 25 (0, 0))) := ⟨heap_setCell_same _ _ 1 _ _ _ (heap_setCell_same _ _ 0 _ _ _ HX4.out.z)⟩
        have hc0 := blk_cell HF.out 0
        have hc1 := blk_cell HF.out 1
        refine bodyPost_ret (v := .tuple #[.agg #[.slice A r1.length c, .slice B r2.length d], .int .i64 0]) (by simp [results, Try.results14, go_sem, hc0, hc1]) rfl ?_
        rw [HE.out]
        have hok : ∀ k, (k < w.heap.size ∨ w2.heap.size ≤ k) → k ≠ w.heap.size + 1 + 1 := fun k hk => by omega
        have g0 := Kd.V_reads' (Kd.V_far (p := ⟨w.heap.size + 1 + 1, 1, none⟩) (Kd.V_far (p := ⟨w.heap.size + 1 + 1, 0, none⟩) HV4.out hok (.slice A r1.length c)) hok (.slice B r2.length d))
        have g1 := Kd.V_reads' (Kd.V_far (p := ⟨w.heap.size + 1 + 1, 1, none⟩) (Kd.V_far (p := ⟨w.heap.size + 1 + 1, 0, none⟩) HU4.out hok (.slice A r1.length c)) hok (.slice B r2.length d))
        exact ⟨A, c, B, d, rfl, hc, hd, g0.2.2, g1.2.2, (HX4.out.lo.setCell (by show w.heap.size ≤ w.heap.size + 1 + 1; omega) _).setCell (by show w.heap.size ≤ w.heap.size + 1 + 1; omega) _⟩
      · have HE : Aside0 (R = ([], [], e3)) := ⟨by rw [HRR.out]; simp [q3]⟩
        have n1 : (e3 != 0) = true := by simpa using q3
        have n2 : (e3 == 0) = false := by simpa using q3
        go_enter Try.func14, Try.ntmps14
        go_wp2_with (first
          | (clear M1; go_at_call 31; rw [hW0.out]; refine HC1.out.mono ?_; rintro e w1 ⟨rfl, hb⟩; have HX1 := Aside0.mk (HX0.out.below hb); have t0 := blk_cell HX1.out.t 0; have t1 := blk_cell HX1.out.t 1; have x0 := blk_cell HX1.out.x 0; have x1 := blk_cell HX1.out.x 1; have x2 := blk_cell HX1.out.x 2; have x3 := blk_cell HX1.out.x 3; have x4 := blk_cell HX1.out.x 4; have x5 := blk_cell HX1.out.x 5; clear hb HC1 HX0; have M2 := Aside0.mk trivial)
          | (go_at_call 32; refine (HD2.out _ HX1.out.lo).mono ?_; rintro e w2 ⟨rfl, hb⟩; have HX2 := Aside0.mk (HX1.out.below hb); clear t0 t1 x0 x1 x2 x3 x4 x5 HX1 hb HD2; have t0 := blk_cell HX2.out.t 0; have t1 := blk_cell HX2.out.t 1; have x0 := blk_cell HX2.out.x 0; have x1 := blk_cell HX2.out.x 1; have x2 := blk_cell HX2.out.x 2; have x3 := blk_cell HX2.out.x 3; have x4 := blk_cell HX2.out.x 4; have x5 := blk_cell HX2.out.x 5)
          | (go_at_call 33; refine (HD3.out _ HX2.out.lo).mono ?_; rintro e w3 ⟨A, c, B, d, rfl, hv, hu, hb⟩; obtain ⟨_, hc, hC⟩ := Kd.V_reads' hv; obtain ⟨_, hd, hD⟩ := Kd.V_reads' hu; have HX3 := Aside0.mk (HX2.out.below hb); have hal := below_alloc (Below.refl w3.heap.size w3) (.cells #[.slice A r1.length c, .slice B r2.length d] 25); have HX3' := Aside0.mk (HX3.out.below hal); have HK4 := Aside0.mk (tartanref04_Check.calls k A c r1 B d r2 e3 _ (Kd.C_below hC hal) hc (Kd.C_below hD hal) hd HD4.out); have HV := Aside0.mk (Kd.V_below hv hal); have HU := Aside0.mk (Kd.V_below hu hal); have hZ2 := lt_of_block HX2.out.z; clear t0 t1 x0 x1 x2 x3 x4 x5 HX2 hb HD3 HD4 hC hD hal hv hu)
          | (clear M2; go_at_call 31; refine HK4.out.mono ?_; rintro e w4 ⟨rfl, hb⟩; have HX4 := Aside0.mk (HX3'.out.below hb); have HV4 := Aside0.mk (Kd.V_below HV.out hb); have HU4 := Aside0.mk (Kd.V_below HU.out hb); have HT4 := Aside0.mk ((hb.block _ (by simp)).trans (blk_new w3 (.cells #[.slice A r1.length c, .slice B r2.length d] 25))); have u0 := blk_cell HT4.out 0; have u1 := blk_cell HT4.out 1; have hz0 := blk_cell HX4.out.z 0; have hz1 := blk_cell HX4.out.z 1; have hf0 := blk_frozen HX4.out.z 0; have hf1 := blk_frozen HX4.out.z 1; clear hb HK4))
        have HF := Aside0.mk (tx_nil HX4.out)
        have hc0 := blk_cell HF.out.1 0
        have hc1 := blk_cell HF.out.1 1
        refine bodyPost_ret (v := .tuple #[.agg #[.slice none 0 0, .slice none 0 0], .int .i64 e3]) (by simp [results, Try.results14, go_sem, hc0, hc1]) rfl ?_
        rw [HE.out]
        exact do_nil w _ e3 HF.out.2
    · have HE : Aside0 (R = ([], [], e2)) := ⟨by rw [HRR.out]; simp [q2]⟩
      have n1 : (e2 != 0) = true := by simpa using q2
      have n2 : (e2 == 0) = false := by simpa using q2
      have M1 := Aside0.mk trivial
      go_enter Try.func14, Try.ntmps14
      go_wp2_with (first
        | (clear M1; go_at_call 31; rw [hW0.out]; refine HC1.out.mono ?_; rintro e w1 ⟨rfl, hb⟩; have HX1 := Aside0.mk (HX0.out.below hb); have t0 := blk_cell HX1.out.t 0; have t1 := blk_cell HX1.out.t 1; have x0 := blk_cell HX1.out.x 0; have x1 := blk_cell HX1.out.x 1; have x2 := blk_cell HX1.out.x 2; have x3 := blk_cell HX1.out.x 3; have x4 := blk_cell HX1.out.x 4; have x5 := blk_cell HX1.out.x 5; clear hb HC1 HX0; have M2 := Aside0.mk trivial)
        | (go_at_call 32; refine (HD2.out _ HX1.out.lo).mono ?_; rintro e w2 ⟨rfl, hb⟩; have HX2 := Aside0.mk (HX1.out.below hb); clear t0 t1 x0 x1 x2 x3 x4 x5 HX1 hb HD2; have t0 := blk_cell HX2.out.t 0; have t1 := blk_cell HX2.out.t 1; have x0 := blk_cell HX2.out.x 0; have x1 := blk_cell HX2.out.x 1; have x2 := blk_cell HX2.out.x 2; have x3 := blk_cell HX2.out.x 3; have x4 := blk_cell HX2.out.x 4; have x5 := blk_cell HX2.out.x 5; have hz0 := blk_cell HX2.out.z 0; have hz1 := blk_cell HX2.out.z 1; have hf0 := blk_frozen HX2.out.z 0; have hf1 := blk_frozen HX2.out.z 1))
      have HF := Aside0.mk (tx_nil HX2.out)
      have hc0 := blk_cell HF.out.1 0
      have hc1 := blk_cell HF.out.1 1
      refine bodyPost_ret (v := .tuple #[.agg #[.slice none 0 0, .slice none 0 0], .int .i64 e2]) (by simp [results, Try.results14, go_sem, hc0, hc1]) rfl ?_
      rw [HE.out]
      exact do_nil w _ e2 HF.out.2
  · have HE : Aside0 (R = ([], [], e1)) := ⟨by rw [HRR.out]; simp [q1]⟩
    have n1 : (e1 != 0) = true := by simpa using q1
    have n2 : (e1 == 0) = false := by simpa using q1
    go_enter Try.func14, Try.ntmps14
    go_wp2_with (go_at_call 31; rw [hW0.out]; refine HC1.out.mono ?_; rintro e w1 ⟨rfl, hb⟩; have HX1 := Aside0.mk (HX0.out.below hb); have hz0 := blk_cell HX1.out.z 0; have hz1 := blk_cell HX1.out.z 1; have hf0 := blk_frozen HX1.out.z 0; have hf1 := blk_frozen HX1.out.z 1; clear hb HC1)
    have HF := Aside0.mk (tx_nil HX1.out)
    have hc0 := blk_cell HF.out.1 0
    have hc1 := blk_cell HF.out.1 1
    refine bodyPost_ret (v := .tuple #[.agg #[.slice none 0 0, .slice none 0 0], .int .i64 e1]) (by simp [results, Try.results14, go_sem, hc0, hc1]) rfl ?_
    rw [HE.out]
    exact do_nil w _ e1 HF.out.2
end
end Go.Proofs.Ytaolakknkhggnaa.X
end
section
namespace Go.Proofs.Ytaolakknkhggnaa.X
open Go.RowKit Go.Maps Go.Shelf Go.Proofs.YtaolakknkhggnaaW.PrintWords Go.Proofs.YtaolakknkhggnaaW.PrintLast
set_option linter.unusedVariables false
set_option linter.unusedSimpArgs false
structure Ea (A0 : Option Addr) (c0 : Nat) (l0 : List ByteArray) (A1 : Option Addr) (c1 : Nat) (l1 : List (List ByteArray)) (A4 : Option Addr) (c4 : Nat) (l4 : List ByteArray) (A5 : Option Addr) (c5 : Nat) (l5 : List Int) (w : World) : Prop where
  r0 : Kd.C Kd.string w A0 l0.length l0
  k0 : l0.length ≤ c0
  r1 : Kd.C (Kd.slice 9 Kd.string) w A1 l1.length l1
  k1 : l1.length ≤ c1
  r4 : Kd.C Kd.string w A4 l4.length l4
  k4 : l4.length ≤ c4
  r5 : Kd.C (Kd.int .i64) w A5 l5.length l5
  k5 : l5.length ≤ c5
theorem Ea.below {A0 : Option Addr} {c0 : Nat} {l0 : List ByteArray} {A1 : Option Addr} {c1 : Nat} {l1 : List (List ByteArray)} {A4 : Option Addr} {c4 : Nat} {l4 : List ByteArray} {A5 : Option Addr} {c5 : Nat} {l5 : List Int} {w w' : World} (h : Ea A0 c0 l0 A1 c1 l1 A4 c4 l4 A5 c5 l5 w) (hb : Below w.heap.size w w') : Ea A0 c0 l0 A1 c1 l1 A4 c4 l4 A5 c5 l5 w' :=
  ⟨Kd.C_below h.r0 hb, h.k0, Kd.C_below h.r1 hb, h.k1, Kd.C_below h.r4 hb, h.k4, Kd.C_below h.r5 hb, h.k5⟩
/-- The result's two cells are filled. -/
theorem do_end {w W W0 : World} {tc xc : Array Value} {A B : Option Addr} {c d : Nat} {r1 : List ByteArray} {r2 : List (List ByteArray)} {r3 : Int} {ok : Nat → Prop} (h : TX w tc xc W) (ho : Kd.R Kd.string 9 W W0.heap.size (fun _ => True) (.slice A r1.length c) r1) (ho' : Kd.S (Kd.slice 9 Kd.string) 22 W W0.heap.size ok (.slice B r2.length d) r2) :
    ((W.setCell ⟨w.heap.size + 1 + 1, 0, none⟩ (.slice A r1.length c)).setCell ⟨w.heap.size + 1 + 1, 1, none⟩ (.slice B r2.length d)).heap[w.heap.size + 1 + 1]? = some (.cells #[.slice A r1.length c, .slice B r2.length d] 25 (0, 0)) ∧ DoT w r1 r2 r3 (.returned (.tuple #[.agg #[.slice A r1.length c, .slice B r2.length d], .int .i64 r3])) ((W.setCell ⟨w.heap.size + 1 + 1, 0, none⟩ (.slice A r1.length c)).setCell ⟨w.heap.size + 1 + 1, 1, none⟩ (.slice B r2.length d)) := by
  have g0 := Kd.R_reads (Kd.R_far (p := ⟨w.heap.size + 1 + 1, 1, none⟩) (Kd.R_far (p := ⟨w.heap.size + 1 + 1, 0, none⟩) (Kd.R_types ho h.z (by decide)) (fun _ hk => hk.2) (.slice A r1.length c)) (fun _ hk => hk.2) (.slice B r2.length d))
  have g1 := Kd.S_reads (Kd.S_far (p := ⟨w.heap.size + 1 + 1, 1, none⟩) (Kd.S_far (p := ⟨w.heap.size + 1 + 1, 0, none⟩) (Kd.S_types ho' h.z (by decide)) (fun _ hk => hk.2) (.slice A r1.length c)) (fun _ hk => hk.2) (.slice B r2.length d))
  obtain ⟨A', c', e, hc, hC⟩ := g0
  cases e
  obtain ⟨B', d', e, hd, hD⟩ := g1
  cases e
  exact ⟨heap_setCell_same _ _ 1 _ _ _ (heap_setCell_same _ _ 0 _ _ _ h.z), _, _, _, _, rfl, hc, hd, hC, hD, (h.lo.setCell (by show w.heap.size ≤ w.heap.size + 1 + 1; omega) _).setCell (by show w.heap.size ≤ w.heap.size + 1 + 1; omega) _⟩
set_option maxRecDepth 100000 in
set_option maxHeartbeats 4000000 in
theorem doE_0 (A0 : Option Addr) (c0 : Nat) (l0 : List ByteArray) (A1 : Option Addr) (c1 : Nat) (l1 : List (List ByteArray)) (a1 a2 : Int) (a3 : ByteArray) (A4 : Option Addr) (c4 : Nat) (l4 : List ByteArray) (A5 : Option Addr) (c5 : Nat) (l5 : List Int) (r1 : List ByteArray) (r2 : List (List ByteArray)) (r3 : Int) (w : World) (he : Ea A0 c0 l0 A1 c1 l1 A4 c4 l4 A5 c5 l5 w) (h : edit_InsertCol.f l0 l1 a1 a3 l4 = some (r1, r2, r3)) :
    Calls Try.prog 13 #[.agg #[.slice A0 l0.length c0, .slice A1 l1.length c1], .agg #[.int .i64 0, .int .i64 a1, .int .i64 a2, .string a3, .slice A4 l4.length c4, .slice A5 l5.length c5]] w (DoT w r1 r2 r3) := by
  obtain ⟨W0, hW0⟩ : ∃ W0, Aside0 (((w.alloc (.cells #[.slice A0 l0.length c0, .slice A1 l1.length c1] 25)).alloc (.cells #[.int .i64 0, .int .i64 a1, .int .i64 a2, .string a3, .slice A4 l4.length c4, .slice A5 l5.length c5] 28)).alloc (.cells #[.slice none 0 0, .slice none 0 0] 25) = W0) := ⟨_, ⟨rfl⟩⟩
  have HX0 : Aside0 (TX w #[.slice A0 l0.length c0, .slice A1 l1.length c1] #[.int .i64 0, .int .i64 a1, .int .i64 a2, .string a3, .slice A4 l4.length c4, .slice A5 l5.length c5] W0) := ⟨by rw [← hW0.out]; exact tx_start w _ _⟩
  have HE := Aside0.mk he
  clear he
  go_enter Try.func13, Try.ntmps13
  go_wp2_with (go_at_call 22; rw [hW0.out]; refine (edit_InsertCol.calls A0 c0 l0 A1 c1 l1 a1 a3 A4 c4 l4 r1 r2 r3 W0 (HE.out.below HX0.out.lo).r0 HE.out.k0 (HE.out.below HX0.out.lo).r1 HE.out.k1 (HE.out.below HX0.out.lo).r4 HE.out.k4 h).mono ?_; rintro e w4 ⟨v, v', rfl, ho, ho', hb⟩; obtain ⟨A9, c9, rfl, hc9, hC9⟩ := Kd.R_reads ho; obtain ⟨B9, d9, rfl, hd9, hD9⟩ := Kd.S_reads ho'; have HX4 := Aside0.mk (HX0.out.below hb); have HO := Aside0.mk (And.intro ho ho'); have hz0 := blk_cell HX4.out.z 0; have hz1 := blk_cell HX4.out.z 1; have hf0 := blk_frozen HX4.out.z 0; have hf1 := blk_frozen HX4.out.z 1; clear ho ho' hb hC9 hD9)
  have HF := do_end (r3 := r3) HX4.out HO.out.1 HO.out.2
  have hc0 := blk_cell HF.1 0
  have hc1 := blk_cell HF.1 1
  exact bodyPost_ret (v := .tuple #[.agg #[.slice A9 r1.length c9, .slice B9 r2.length d9], .int .i64 r3]) (by simp [results, Try.results13, go_sem, hc0, hc1]) rfl HF.2
set_option maxRecDepth 100000 in
set_option maxHeartbeats 4000000 in
theorem doE_1 (A0 : Option Addr) (c0 : Nat) (l0 : List ByteArray) (A1 : Option Addr) (c1 : Nat) (l1 : List (List ByteArray)) (a1 a2 : Int) (a3 : ByteArray) (A4 : Option Addr) (c4 : Nat) (l4 : List ByteArray) (A5 : Option Addr) (c5 : Nat) (l5 : List Int) (r1 : List ByteArray) (r2 : List (List ByteArray)) (r3 : Int) (w : World) (he : Ea A0 c0 l0 A1 c1 l1 A4 c4 l4 A5 c5 l5 w) (h : edit_DeleteCol.f l0 l1 a1 = some (r1, r2, r3)) :
    Calls Try.prog 13 #[.agg #[.slice A0 l0.length c0, .slice A1 l1.length c1], .agg #[.int .i64 1, .int .i64 a1, .int .i64 a2, .string a3, .slice A4 l4.length c4, .slice A5 l5.length c5]] w (DoT w r1 r2 r3) := by
  obtain ⟨W0, hW0⟩ : ∃ W0, Aside0 (((w.alloc (.cells #[.slice A0 l0.length c0, .slice A1 l1.length c1] 25)).alloc (.cells #[.int .i64 1, .int .i64 a1, .int .i64 a2, .string a3, .slice A4 l4.length c4, .slice A5 l5.length c5] 28)).alloc (.cells #[.slice none 0 0, .slice none 0 0] 25) = W0) := ⟨_, ⟨rfl⟩⟩
  have HX0 : Aside0 (TX w #[.slice A0 l0.length c0, .slice A1 l1.length c1] #[.int .i64 1, .int .i64 a1, .int .i64 a2, .string a3, .slice A4 l4.length c4, .slice A5 l5.length c5] W0) := ⟨by rw [← hW0.out]; exact tx_start w _ _⟩
  have HE := Aside0.mk he
  clear he
  go_enter Try.func13, Try.ntmps13
  go_wp2_with (go_at_call 23; rw [hW0.out]; refine (edit_DeleteCol.calls A0 c0 l0 A1 c1 l1 a1 r1 r2 r3 W0 (HE.out.below HX0.out.lo).r0 HE.out.k0 (HE.out.below HX0.out.lo).r1 HE.out.k1 h).mono ?_; rintro e w4 ⟨v, v', rfl, ho, ho', hb⟩; obtain ⟨A9, c9, rfl, hc9, hC9⟩ := Kd.R_reads ho; obtain ⟨B9, d9, rfl, hd9, hD9⟩ := Kd.S_reads ho'; have HX4 := Aside0.mk (HX0.out.below hb); have HO := Aside0.mk (And.intro ho ho'); have hz0 := blk_cell HX4.out.z 0; have hz1 := blk_cell HX4.out.z 1; have hf0 := blk_frozen HX4.out.z 0; have hf1 := blk_frozen HX4.out.z 1; clear ho ho' hb hC9 hD9)
  have HF := do_end (r3 := r3) HX4.out HO.out.1 HO.out.2
  have hc0 := blk_cell HF.1 0
  have hc1 := blk_cell HF.1 1
  exact bodyPost_ret (v := .tuple #[.agg #[.slice A9 r1.length c9, .slice B9 r2.length d9], .int .i64 r3]) (by simp [results, Try.results13, go_sem, hc0, hc1]) rfl HF.2
set_option maxRecDepth 100000 in
set_option maxHeartbeats 4000000 in
theorem doE_2 (A0 : Option Addr) (c0 : Nat) (l0 : List ByteArray) (A1 : Option Addr) (c1 : Nat) (l1 : List (List ByteArray)) (a1 a2 : Int) (a3 : ByteArray) (A4 : Option Addr) (c4 : Nat) (l4 : List ByteArray) (A5 : Option Addr) (c5 : Nat) (l5 : List Int) (r1 : List ByteArray) (r2 : List (List ByteArray)) (r3 : Int) (w : World) (he : Ea A0 c0 l0 A1 c1 l1 A4 c4 l4 A5 c5 l5 w) (h : edit_RenameCol.f l0 l1 a1 a3 = some (r1, r2, r3)) :
    Calls Try.prog 13 #[.agg #[.slice A0 l0.length c0, .slice A1 l1.length c1], .agg #[.int .i64 2, .int .i64 a1, .int .i64 a2, .string a3, .slice A4 l4.length c4, .slice A5 l5.length c5]] w (DoT w r1 r2 r3) := by
  obtain ⟨W0, hW0⟩ : ∃ W0, Aside0 (((w.alloc (.cells #[.slice A0 l0.length c0, .slice A1 l1.length c1] 25)).alloc (.cells #[.int .i64 2, .int .i64 a1, .int .i64 a2, .string a3, .slice A4 l4.length c4, .slice A5 l5.length c5] 28)).alloc (.cells #[.slice none 0 0, .slice none 0 0] 25) = W0) := ⟨_, ⟨rfl⟩⟩
  have HX0 : Aside0 (TX w #[.slice A0 l0.length c0, .slice A1 l1.length c1] #[.int .i64 2, .int .i64 a1, .int .i64 a2, .string a3, .slice A4 l4.length c4, .slice A5 l5.length c5] W0) := ⟨by rw [← hW0.out]; exact tx_start w _ _⟩
  have HE := Aside0.mk he
  clear he
  go_enter Try.func13, Try.ntmps13
  go_wp2_with (go_at_call 27; rw [hW0.out]; refine (edit_RenameCol.calls A0 c0 l0 A1 c1 l1 a1 a3 r1 r2 r3 W0 (HE.out.below HX0.out.lo).r0 HE.out.k0 (HE.out.below HX0.out.lo).r1 HE.out.k1 h).mono ?_; rintro e w4 ⟨v, v', rfl, ho, ho', hb⟩; obtain ⟨A9, c9, rfl, hc9, hC9⟩ := Kd.R_reads ho; obtain ⟨B9, d9, rfl, hd9, hD9⟩ := Kd.S_reads ho'; have HX4 := Aside0.mk (HX0.out.below hb); have HO := Aside0.mk (And.intro ho ho'); have hz0 := blk_cell HX4.out.z 0; have hz1 := blk_cell HX4.out.z 1; have hf0 := blk_frozen HX4.out.z 0; have hf1 := blk_frozen HX4.out.z 1; clear ho ho' hb hC9 hD9)
  have HF := do_end (r3 := r3) HX4.out HO.out.1 HO.out.2
  have hc0 := blk_cell HF.1 0
  have hc1 := blk_cell HF.1 1
  exact bodyPost_ret (v := .tuple #[.agg #[.slice A9 r1.length c9, .slice B9 r2.length d9], .int .i64 r3]) (by simp [results, Try.results13, go_sem, hc0, hc1]) rfl HF.2
set_option maxRecDepth 100000 in
set_option maxHeartbeats 4000000 in
theorem doE_3 (A0 : Option Addr) (c0 : Nat) (l0 : List ByteArray) (A1 : Option Addr) (c1 : Nat) (l1 : List (List ByteArray)) (a1 a2 : Int) (a3 : ByteArray) (A4 : Option Addr) (c4 : Nat) (l4 : List ByteArray) (A5 : Option Addr) (c5 : Nat) (l5 : List Int) (r1 : List ByteArray) (r2 : List (List ByteArray)) (r3 : Int) (w : World) (he : Ea A0 c0 l0 A1 c1 l1 A4 c4 l4 A5 c5 l5 w) (h : edit_MoveCol.f l0 l1 a1 a2 = some (r1, r2, r3)) :
    Calls Try.prog 13 #[.agg #[.slice A0 l0.length c0, .slice A1 l1.length c1], .agg #[.int .i64 3, .int .i64 a1, .int .i64 a2, .string a3, .slice A4 l4.length c4, .slice A5 l5.length c5]] w (DoT w r1 r2 r3) := by
  obtain ⟨W0, hW0⟩ : ∃ W0, Aside0 (((w.alloc (.cells #[.slice A0 l0.length c0, .slice A1 l1.length c1] 25)).alloc (.cells #[.int .i64 3, .int .i64 a1, .int .i64 a2, .string a3, .slice A4 l4.length c4, .slice A5 l5.length c5] 28)).alloc (.cells #[.slice none 0 0, .slice none 0 0] 25) = W0) := ⟨_, ⟨rfl⟩⟩
  have HX0 : Aside0 (TX w #[.slice A0 l0.length c0, .slice A1 l1.length c1] #[.int .i64 3, .int .i64 a1, .int .i64 a2, .string a3, .slice A4 l4.length c4, .slice A5 l5.length c5] W0) := ⟨by rw [← hW0.out]; exact tx_start w _ _⟩
  have HE := Aside0.mk he
  clear he
  go_enter Try.func13, Try.ntmps13
  go_wp2_with (go_at_call 20; rw [hW0.out]; refine (edit_MoveCol.calls A0 c0 l0 A1 c1 l1 a1 a2 r1 r2 r3 W0 (HE.out.below HX0.out.lo).r0 HE.out.k0 (HE.out.below HX0.out.lo).r1 HE.out.k1 h).mono ?_; rintro e w4 ⟨v, v', rfl, ho, ho', hb⟩; obtain ⟨A9, c9, rfl, hc9, hC9⟩ := Kd.R_reads ho; obtain ⟨B9, d9, rfl, hd9, hD9⟩ := Kd.S_reads ho'; have HX4 := Aside0.mk (HX0.out.below hb); have HO := Aside0.mk (And.intro ho ho'); have hz0 := blk_cell HX4.out.z 0; have hz1 := blk_cell HX4.out.z 1; have hf0 := blk_frozen HX4.out.z 0; have hf1 := blk_frozen HX4.out.z 1; clear ho ho' hb hC9 hD9)
  have HF := do_end (r3 := r3) HX4.out HO.out.1 HO.out.2
  have hc0 := blk_cell HF.1 0
  have hc1 := blk_cell HF.1 1
  exact bodyPost_ret (v := .tuple #[.agg #[.slice A9 r1.length c9, .slice B9 r2.length d9], .int .i64 r3]) (by simp [results, Try.results13, go_sem, hc0, hc1]) rfl HF.2
set_option maxRecDepth 100000 in
set_option maxHeartbeats 4000000 in
theorem doE_4 (A0 : Option Addr) (c0 : Nat) (l0 : List ByteArray) (A1 : Option Addr) (c1 : Nat) (l1 : List (List ByteArray)) (a1 a2 : Int) (a3 : ByteArray) (A4 : Option Addr) (c4 : Nat) (l4 : List ByteArray) (A5 : Option Addr) (c5 : Nat) (l5 : List Int) (r1 : List ByteArray) (r2 : List (List ByteArray)) (r3 : Int) (w : World) (he : Ea A0 c0 l0 A1 c1 l1 A4 c4 l4 A5 c5 l5 w) (h : edit_InsertRow.f l0 l1 a1 l4 = some (r1, r2, r3)) :
    Calls Try.prog 13 #[.agg #[.slice A0 l0.length c0, .slice A1 l1.length c1], .agg #[.int .i64 4, .int .i64 a1, .int .i64 a2, .string a3, .slice A4 l4.length c4, .slice A5 l5.length c5]] w (DoT w r1 r2 r3) := by
  obtain ⟨W0, hW0⟩ : ∃ W0, Aside0 (((w.alloc (.cells #[.slice A0 l0.length c0, .slice A1 l1.length c1] 25)).alloc (.cells #[.int .i64 4, .int .i64 a1, .int .i64 a2, .string a3, .slice A4 l4.length c4, .slice A5 l5.length c5] 28)).alloc (.cells #[.slice none 0 0, .slice none 0 0] 25) = W0) := ⟨_, ⟨rfl⟩⟩
  have HX0 : Aside0 (TX w #[.slice A0 l0.length c0, .slice A1 l1.length c1] #[.int .i64 4, .int .i64 a1, .int .i64 a2, .string a3, .slice A4 l4.length c4, .slice A5 l5.length c5] W0) := ⟨by rw [← hW0.out]; exact tx_start w _ _⟩
  have HE := Aside0.mk he
  clear he
  go_enter Try.func13, Try.ntmps13
  go_wp2_with (go_at_call 25; rw [hW0.out]; refine (edit_InsertRow.calls A0 c0 l0 A1 c1 l1 a1 A4 c4 l4 r1 r2 r3 W0 (HE.out.below HX0.out.lo).r0 HE.out.k0 (HE.out.below HX0.out.lo).r1 HE.out.k1 (HE.out.below HX0.out.lo).r4 HE.out.k4 h).mono ?_; rintro e w4 ⟨v, v', rfl, ho, ho', hb⟩; obtain ⟨A9, c9, rfl, hc9, hC9⟩ := Kd.R_reads ho; obtain ⟨B9, d9, rfl, hd9, hD9⟩ := Kd.S_reads ho'; have HX4 := Aside0.mk (HX0.out.below hb); have HO := Aside0.mk (And.intro ho ho'); have hz0 := blk_cell HX4.out.z 0; have hz1 := blk_cell HX4.out.z 1; have hf0 := blk_frozen HX4.out.z 0; have hf1 := blk_frozen HX4.out.z 1; clear ho ho' hb hC9 hD9)
  have HF := do_end (r3 := r3) HX4.out HO.out.1 HO.out.2
  have hc0 := blk_cell HF.1 0
  have hc1 := blk_cell HF.1 1
  exact bodyPost_ret (v := .tuple #[.agg #[.slice A9 r1.length c9, .slice B9 r2.length d9], .int .i64 r3]) (by simp [results, Try.results13, go_sem, hc0, hc1]) rfl HF.2
set_option maxRecDepth 100000 in
set_option maxHeartbeats 4000000 in
theorem doE_5 (A0 : Option Addr) (c0 : Nat) (l0 : List ByteArray) (A1 : Option Addr) (c1 : Nat) (l1 : List (List ByteArray)) (a1 a2 : Int) (a3 : ByteArray) (A4 : Option Addr) (c4 : Nat) (l4 : List ByteArray) (A5 : Option Addr) (c5 : Nat) (l5 : List Int) (r1 : List ByteArray) (r2 : List (List ByteArray)) (r3 : Int) (w : World) (he : Ea A0 c0 l0 A1 c1 l1 A4 c4 l4 A5 c5 l5 w) (h : edit_DeleteRow.f l0 l1 a1 = some (r1, r2, r3)) :
    Calls Try.prog 13 #[.agg #[.slice A0 l0.length c0, .slice A1 l1.length c1], .agg #[.int .i64 5, .int .i64 a1, .int .i64 a2, .string a3, .slice A4 l4.length c4, .slice A5 l5.length c5]] w (DoT w r1 r2 r3) := by
  obtain ⟨W0, hW0⟩ : ∃ W0, Aside0 (((w.alloc (.cells #[.slice A0 l0.length c0, .slice A1 l1.length c1] 25)).alloc (.cells #[.int .i64 5, .int .i64 a1, .int .i64 a2, .string a3, .slice A4 l4.length c4, .slice A5 l5.length c5] 28)).alloc (.cells #[.slice none 0 0, .slice none 0 0] 25) = W0) := ⟨_, ⟨rfl⟩⟩
  have HX0 : Aside0 (TX w #[.slice A0 l0.length c0, .slice A1 l1.length c1] #[.int .i64 5, .int .i64 a1, .int .i64 a2, .string a3, .slice A4 l4.length c4, .slice A5 l5.length c5] W0) := ⟨by rw [← hW0.out]; exact tx_start w _ _⟩
  have HE := Aside0.mk he
  clear he
  go_enter Try.func13, Try.ntmps13
  go_wp2_with (go_at_call 26; rw [hW0.out]; refine (edit_DeleteRow.calls A0 c0 l0 A1 c1 l1 a1 r1 r2 r3 W0 (HE.out.below HX0.out.lo).r0 HE.out.k0 (HE.out.below HX0.out.lo).r1 HE.out.k1 h).mono ?_; rintro e w4 ⟨v, v', rfl, ho, ho', hb⟩; obtain ⟨A9, c9, rfl, hc9, hC9⟩ := Kd.R_reads ho; obtain ⟨B9, d9, rfl, hd9, hD9⟩ := Kd.S_reads ho'; have HX4 := Aside0.mk (HX0.out.below hb); have HO := Aside0.mk (And.intro ho ho'); have hz0 := blk_cell HX4.out.z 0; have hz1 := blk_cell HX4.out.z 1; have hf0 := blk_frozen HX4.out.z 0; have hf1 := blk_frozen HX4.out.z 1; clear ho ho' hb hC9 hD9)
  have HF := do_end (r3 := r3) HX4.out HO.out.1 HO.out.2
  have hc0 := blk_cell HF.1 0
  have hc1 := blk_cell HF.1 1
  exact bodyPost_ret (v := .tuple #[.agg #[.slice A9 r1.length c9, .slice B9 r2.length d9], .int .i64 r3]) (by simp [results, Try.results13, go_sem, hc0, hc1]) rfl HF.2
set_option maxRecDepth 100000 in
set_option maxHeartbeats 4000000 in
theorem doE_6 (A0 : Option Addr) (c0 : Nat) (l0 : List ByteArray) (A1 : Option Addr) (c1 : Nat) (l1 : List (List ByteArray)) (a1 a2 : Int) (a3 : ByteArray) (A4 : Option Addr) (c4 : Nat) (l4 : List ByteArray) (A5 : Option Addr) (c5 : Nat) (l5 : List Int) (r1 : List ByteArray) (r2 : List (List ByteArray)) (r3 : Int) (w : World) (he : Ea A0 c0 l0 A1 c1 l1 A4 c4 l4 A5 c5 l5 w) (h : edit_MoveRow.f l0 l1 a1 a2 = some (r1, r2, r3)) :
    Calls Try.prog 13 #[.agg #[.slice A0 l0.length c0, .slice A1 l1.length c1], .agg #[.int .i64 6, .int .i64 a1, .int .i64 a2, .string a3, .slice A4 l4.length c4, .slice A5 l5.length c5]] w (DoT w r1 r2 r3) := by
  obtain ⟨W0, hW0⟩ : ∃ W0, Aside0 (((w.alloc (.cells #[.slice A0 l0.length c0, .slice A1 l1.length c1] 25)).alloc (.cells #[.int .i64 6, .int .i64 a1, .int .i64 a2, .string a3, .slice A4 l4.length c4, .slice A5 l5.length c5] 28)).alloc (.cells #[.slice none 0 0, .slice none 0 0] 25) = W0) := ⟨_, ⟨rfl⟩⟩
  have HX0 : Aside0 (TX w #[.slice A0 l0.length c0, .slice A1 l1.length c1] #[.int .i64 6, .int .i64 a1, .int .i64 a2, .string a3, .slice A4 l4.length c4, .slice A5 l5.length c5] W0) := ⟨by rw [← hW0.out]; exact tx_start w _ _⟩
  have HE := Aside0.mk he
  clear he
  go_enter Try.func13, Try.ntmps13
  go_wp2_with (go_at_call 21; rw [hW0.out]; refine (edit_MoveRow.calls A0 c0 l0 A1 c1 l1 a1 a2 r1 r2 r3 W0 (HE.out.below HX0.out.lo).r0 HE.out.k0 (HE.out.below HX0.out.lo).r1 HE.out.k1 h).mono ?_; rintro e w4 ⟨v, v', rfl, ho, ho', hb⟩; obtain ⟨A9, c9, rfl, hc9, hC9⟩ := Kd.R_reads ho; obtain ⟨B9, d9, rfl, hd9, hD9⟩ := Kd.S_reads ho'; have HX4 := Aside0.mk (HX0.out.below hb); have HO := Aside0.mk (And.intro ho ho'); have hz0 := blk_cell HX4.out.z 0; have hz1 := blk_cell HX4.out.z 1; have hf0 := blk_frozen HX4.out.z 0; have hf1 := blk_frozen HX4.out.z 1; clear ho ho' hb hC9 hD9)
  have HF := do_end (r3 := r3) HX4.out HO.out.1 HO.out.2
  have hc0 := blk_cell HF.1 0
  have hc1 := blk_cell HF.1 1
  exact bodyPost_ret (v := .tuple #[.agg #[.slice A9 r1.length c9, .slice B9 r2.length d9], .int .i64 r3]) (by simp [results, Try.results13, go_sem, hc0, hc1]) rfl HF.2
set_option maxRecDepth 100000 in
set_option maxHeartbeats 4000000 in
theorem doE_7 (A0 : Option Addr) (c0 : Nat) (l0 : List ByteArray) (A1 : Option Addr) (c1 : Nat) (l1 : List (List ByteArray)) (a1 a2 : Int) (a3 : ByteArray) (A4 : Option Addr) (c4 : Nat) (l4 : List ByteArray) (A5 : Option Addr) (c5 : Nat) (l5 : List Int) (r1 : List ByteArray) (r2 : List (List ByteArray)) (r3 : Int) (w : World) (he : Ea A0 c0 l0 A1 c1 l1 A4 c4 l4 A5 c5 l5 w) (h : edit_Set.f l0 l1 a1 a2 a3 = some (r1, r2, r3)) :
    Calls Try.prog 13 #[.agg #[.slice A0 l0.length c0, .slice A1 l1.length c1], .agg #[.int .i64 7, .int .i64 a1, .int .i64 a2, .string a3, .slice A4 l4.length c4, .slice A5 l5.length c5]] w (DoT w r1 r2 r3) := by
  obtain ⟨W0, hW0⟩ : ∃ W0, Aside0 (((w.alloc (.cells #[.slice A0 l0.length c0, .slice A1 l1.length c1] 25)).alloc (.cells #[.int .i64 7, .int .i64 a1, .int .i64 a2, .string a3, .slice A4 l4.length c4, .slice A5 l5.length c5] 28)).alloc (.cells #[.slice none 0 0, .slice none 0 0] 25) = W0) := ⟨_, ⟨rfl⟩⟩
  have HX0 : Aside0 (TX w #[.slice A0 l0.length c0, .slice A1 l1.length c1] #[.int .i64 7, .int .i64 a1, .int .i64 a2, .string a3, .slice A4 l4.length c4, .slice A5 l5.length c5] W0) := ⟨by rw [← hW0.out]; exact tx_start w _ _⟩
  have HE := Aside0.mk he
  clear he
  go_enter Try.func13, Try.ntmps13
  go_wp2_with (go_at_call 16; rw [hW0.out]; refine (edit_Set.calls A0 c0 l0 A1 c1 l1 a1 a2 a3 r1 r2 r3 W0 (HE.out.below HX0.out.lo).r0 HE.out.k0 (HE.out.below HX0.out.lo).r1 HE.out.k1 h).mono ?_; rintro e w4 ⟨v, v', rfl, ho, ho', hb⟩; obtain ⟨A9, c9, rfl, hc9, hC9⟩ := Kd.R_reads ho; obtain ⟨B9, d9, rfl, hd9, hD9⟩ := Kd.S_reads ho'; have HX4 := Aside0.mk (HX0.out.below hb); have HO := Aside0.mk (And.intro ho ho'); have hz0 := blk_cell HX4.out.z 0; have hz1 := blk_cell HX4.out.z 1; have hf0 := blk_frozen HX4.out.z 0; have hf1 := blk_frozen HX4.out.z 1; clear ho ho' hb hC9 hD9)
  have HF := do_end (r3 := r3) HX4.out HO.out.1 HO.out.2
  have hc0 := blk_cell HF.1 0
  have hc1 := blk_cell HF.1 1
  exact bodyPost_ret (v := .tuple #[.agg #[.slice A9 r1.length c9, .slice B9 r2.length d9], .int .i64 r3]) (by simp [results, Try.results13, go_sem, hc0, hc1]) rfl HF.2
set_option maxRecDepth 100000 in
set_option maxHeartbeats 4000000 in
theorem doE_8 (kd : Int) (n0 : (kd == 0) = false) (m0 : ¬ kd = 0) (n1 : (kd == 1) = false) (m1 : ¬ kd = 1) (n2 : (kd == 2) = false) (m2 : ¬ kd = 2) (n3 : (kd == 3) = false) (m3 : ¬ kd = 3) (n4 : (kd == 4) = false) (m4 : ¬ kd = 4) (n5 : (kd == 5) = false) (m5 : ¬ kd = 5) (n6 : (kd == 6) = false) (m6 : ¬ kd = 6) (n7 : (kd == 7) = false) (m7 : ¬ kd = 7) (A0 : Option Addr) (c0 : Nat) (l0 : List ByteArray) (A1 : Option Addr) (c1 : Nat) (l1 : List (List ByteArray)) (a1 a2 : Int) (a3 : ByteArray) (A4 : Option Addr) (c4 : Nat) (l4 : List ByteArray) (A5 : Option Addr) (c5 : Nat) (l5 : List Int) (r1 : List ByteArray) (r2 : List (List ByteArray)) (r3 : Int) (w : World) (he : Ea A0 c0 l0 A1 c1 l1 A4 c4 l4 A5 c5 l5 w) (h : edit_Project.f l0 l1 l5 = some (r1, r2, r3)) :
    Calls Try.prog 13 #[.agg #[.slice A0 l0.length c0, .slice A1 l1.length c1], .agg #[.int .i64 kd, .int .i64 a1, .int .i64 a2, .string a3, .slice A4 l4.length c4, .slice A5 l5.length c5]] w (DoT w r1 r2 r3) := by
  obtain ⟨W0, hW0⟩ : ∃ W0, Aside0 (((w.alloc (.cells #[.slice A0 l0.length c0, .slice A1 l1.length c1] 25)).alloc (.cells #[.int .i64 kd, .int .i64 a1, .int .i64 a2, .string a3, .slice A4 l4.length c4, .slice A5 l5.length c5] 28)).alloc (.cells #[.slice none 0 0, .slice none 0 0] 25) = W0) := ⟨_, ⟨rfl⟩⟩
  have HX0 : Aside0 (TX w #[.slice A0 l0.length c0, .slice A1 l1.length c1] #[.int .i64 kd, .int .i64 a1, .int .i64 a2, .string a3, .slice A4 l4.length c4, .slice A5 l5.length c5] W0) := ⟨by rw [← hW0.out]; exact tx_start w _ _⟩
  have HE := Aside0.mk he
  clear he
  go_enter Try.func13, Try.ntmps13
  go_wp2_with (go_at_call 19; rw [hW0.out]; refine (edit_Project.calls A0 c0 l0 A1 c1 l1 A5 c5 l5 r1 r2 r3 W0 (HE.out.below HX0.out.lo).r0 HE.out.k0 (HE.out.below HX0.out.lo).r1 HE.out.k1 (HE.out.below HX0.out.lo).r5 HE.out.k5 h).mono ?_; rintro e w4 ⟨v, v', rfl, ho, ho', hb⟩; obtain ⟨A9, c9, rfl, hc9, hC9⟩ := Kd.R_reads ho; obtain ⟨B9, d9, rfl, hd9, hD9⟩ := Kd.S_reads ho'; have HX4 := Aside0.mk (HX0.out.below hb); have HO := Aside0.mk (And.intro ho ho'); have hz0 := blk_cell HX4.out.z 0; have hz1 := blk_cell HX4.out.z 1; have hf0 := blk_frozen HX4.out.z 0; have hf1 := blk_frozen HX4.out.z 1; clear ho ho' hb hC9 hD9)
  have HF := do_end (r3 := r3) HX4.out HO.out.1 HO.out.2
  have hc0 := blk_cell HF.1 0
  have hc1 := blk_cell HF.1 1
  exact bodyPost_ret (v := .tuple #[.agg #[.slice A9 r1.length c9, .slice B9 r2.length d9], .int .i64 r3]) (by simp [results, Try.results13, go_sem, hc0, hc1]) rfl HF.2
end Go.Proofs.Ytaolakknkhggnaa.X
end
section
namespace Go.Proofs.Ytaolakknkhggnaa.X
open Go.RowKit Go.Maps Go.Proofs.YtaolakknkhggnaaW.PrintWords Go.Proofs.YtaolakknkhggnaaW.PrintLast
set_option linter.unusedVariables false
set_option linter.unusedSectionVars false
theorem sets_put {α : Type} {l : List α} {i : Nat} (x : α) (h : i < l.length) : putL (dropL l i) i x = l.set i x := by
  have hd := dropL_length h
  refine List.ext_getElem? fun j => ?_
  rw [putL_get x (by omega)]
  by_cases h1 : j < i
  · rw [if_pos h1, dropL_get h, if_pos h1, List.getElem?_set_ne (by omega)]
  · rw [if_neg h1]
    by_cases h2 : j = i
    · subst h2
      rw [if_pos rfl, List.getElem?_set_self h]
    · rw [if_neg h2, dropL_get h, if_neg (by omega), List.getElem?_set_ne (by omega)]
      congr 1
      omega
theorem colT_getD (rows : List (List ByteArray)) (c : Int) (n j : Nat) (h : j < n) : (colT rows c n).getD j ByteArray.empty = cellT rows (j : Int) c := by
  unfold colT
  rw [List.getD_eq_getElem?_getD, List.getElem?_map, List.getElem?_range h]
  rfl
theorem outI_cols (rows : List (List ByteArray)) (a : Nat) (n : Nat) (g : List ByteArray → List ByteArray) (f : ByteArray → List ByteArray → List ByteArray) (ha : a < n) (hw : ∀ x ∈ rows, x.length = n) :
    outI (fun i r => f ((colT rows (a : Int) rows.length).getD i ByteArray.empty) r) (rows.map g) (rows.map g).length = rows.map fun l => f (l.getD a ByteArray.empty) (g l) := by
  refine List.ext_getElem? fun j => ?_
  unfold outI
  rw [List.getElem?_map, List.getElem?_map, List.length_map]
  rcases Nat.lt_or_ge j rows.length with h | h
  · have hx := some_getD ([] : List ByteArray) h
    have hl := hw _ (List.mem_of_getElem? hx)
    rw [List.getElem?_range h, hx, Option.map_some, Option.map_some]
    show some (f ((colT rows (a : Int) rows.length).getD j ByteArray.empty) ((rows.map g).getD j [])) = _
    rw [colT_getD _ _ _ _ h, cellT_in _ _ _ h (by omega), List.getD_eq_getElem?_getD (l := rows.map g), List.getElem?_map, hx]
    rfl
  · rw [List.getElem?_eq_none (by simpa using h), List.getElem?_eq_none h]
    rfl
/-- Small. -/
structure S6 (hd : List ByteArray) (rows : List (List ByteArray)) : Prop where
  h : hd.length ≤ 60
  r : rows.length ≤ 60
  w : ∀ x ∈ rows, x.length ≤ 60
theorem Sm.of {hd : List ByteArray} {rows : List (List ByteArray)} (h : hd.length ≤ 100) (r : rows.length ≤ 100) (w : ∀ x ∈ rows, x.length ≤ 100) : Sm hd rows :=
  ⟨h, r, fun j hj => w _ (List.mem_of_getElem? (some_getD [] hj))⟩
theorem S6.sm {hd : List ByteArray} {rows : List (List ByteArray)} (s : S6 hd rows) : Sm hd rows := Sm.of (by have := s.h; omega) (by have := s.r; omega) (fun x hx => by have := s.w x hx; omega)
theorem few6 (h : List ByteArray) (rows : List (List ByteArray)) {k : Nat} (hk : 10000 ≤ k) : ∃ b, tartanref04_Few.f k h rows = some b ∧ (b = true → S6 h rows) := by
  obtain ⟨b, e, hb⟩ := few4_some h rows hk
  exact ⟨b, e, fun h => by
    obtain ⟨h1, h2, h3⟩ := hb h
    refine ⟨h1, h2, fun x hx => ?_⟩
    obtain ⟨j, hj, rfl⟩ := List.getElem_of_mem hx
    have := h3 j hj
    rw [List.getD_eq_getElem?_getD, List.getElem?_eq_getElem hj] at this
    exact this⟩
theorem xInsCol_zero {a : Int} {n c r : Nat} (h : xInsCol a n c r = 0) : (0 ≤ a ∧ a ≤ (n : Int)) ∧ c = r := by
  unfold xInsCol at h
  split at h
  · rename_i h1
    split at h
    · rename_i h2; exact ⟨⟨h1.1, by omega⟩, h2⟩
    · exact absurd h (by decide)
  · exact absurd h (by decide)
theorem xProj_zero {l : List Int} {n : Nat} (h : xProj l n = 0) : ∀ q ∈ l, 0 ≤ q ∧ q < (n : Int) := by
  unfold xProj at h
  split at h
  · assumption
  · exact absurd h (by decide)
theorem mem_outI {ro : Nat → List ByteArray → List ByteArray} {rows : List (List ByteArray)} {x : List ByteArray} (h : x ∈ outI ro rows rows.length) : ∃ i, ∃ y ∈ rows, x = ro i y := by
  unfold outI at h
  obtain ⟨i, hi, rfl⟩ := List.mem_map.1 h
  have := List.mem_range.1 hi
  exact ⟨i, _, List.mem_of_getElem? (some_getD [] this), rfl⟩
def TuT (kd : Int) (A0 : Option Addr) (c0 : Nat) (l0 : List ByteArray) (A1 : Option Addr) (c1 : Nat) (l1 : List (List ByteArray)) (a1 a2 : Int) (a3 : ByteArray) (A4 : Option Addr) (c4 : Nat) (l4 : List ByteArray) (A5 : Option Addr) (c5 : Nat) (l5 : List Int) (r1 : List ByteArray) (r2 : List (List ByteArray)) : Prop :=
  ∀ w W, Ea A0 c0 l0 A1 c1 l1 A4 c4 l4 A5 c5 l5 w → Below w.heap.size w W → Calls Try.prog 33 #[.agg #[.slice A0 l0.length c0, .slice A1 l1.length c1], .agg #[.int .i64 kd, .int .i64 a1, .int .i64 a2, .string a3, .slice A4 l4.length c4, .slice A5 l5.length c5]] W (ToT w W r1 r2)
def DeT (kd : Int) (A0 : Option Addr) (c0 : Nat) (l0 : List ByteArray) (A1 : Option Addr) (c1 : Nat) (l1 : List (List ByteArray)) (a1 a2 : Int) (a3 : ByteArray) (A4 : Option Addr) (c4 : Nat) (l4 : List ByteArray) (A5 : Option Addr) (c5 : Nat) (l5 : List Int) (R : List ByteArray × List (List ByteArray) × Int) : Prop :=
  ∀ w, Ea A0 c0 l0 A1 c1 l1 A4 c4 l4 A5 c5 l5 w → Calls Try.prog 13 #[.agg #[.slice A0 l0.length c0, .slice A1 l1.length c1], .agg #[.int .i64 kd, .int .i64 a1, .int .i64 a2, .string a3, .slice A4 l4.length c4, .slice A5 l5.length c5]] w (DoT w R.1 R.2.1 R.2.2)
def DoR (kd : Int) (A0 : Option Addr) (c0 : Nat) (l0 : List ByteArray) (A1 : Option Addr) (c1 : Nat) (l1 : List (List ByteArray)) (a1 a2 : Int) (a3 : ByteArray) (A4 : Option Addr) (c4 : Nat) (l4 : List ByteArray) (A5 : Option Addr) (c5 : Nat) (l5 : List Int) : Prop :=
  ∃ x r1 r2, DeT kd A0 c0 l0 A1 c1 l1 a1 a2 a3 A4 c4 l4 A5 c5 l5 (madeT l0 l1 x r1 r2) ∧ wrongR l0.length l1.length kd a1 a2 l4 l5 = x ∧ (checkT l0 l1 = 0 → x = 0 → Sm r1 r2 ∧ TuT kd A0 c0 l0 A1 c1 l1 a1 a2 a3 A4 c4 l4 A5 c5 l5 r1 r2)
section
variable (A0 : Option Addr) (c0 : Nat) (l0 : List ByteArray) (A1 : Option Addr) (c1 : Nat) (l1 : List (List ByteArray)) (a1 a2 : Int) (a3 : ByteArray) (A4 : Option Addr) (c4 : Nat) (l4 : List ByteArray) (A5 : Option Addr) (c5 : Nat) (l5 : List Int) (s : S6 l0 l1) (hs : okS l0) (h3 : a3.size ≤ maxLen) (h4 : l4.length ≤ 61) (h5 : l5.length ≤ 60)
include s hs h3 h4 h5
theorem do_0 : DoR 0 A0 c0 l0 A1 c1 l1 a1 a2 a3 A4 c4 l4 A5 c5 l5 := by
  have hE := s.sm.okE hs
  have sh := s.h
  have sr := s.r
  refine ⟨xInsCol a1 l0.length l4.length l1.length, putL l0 a1.toNat a3, outI (fun i r => putL r a1.toNat (l4.getD i ByteArray.empty)) l1 l1.length, ?_, ?_, fun hc hx => ?_⟩
  · exact fun w he => doE_0 A0 c0 l0 A1 c1 l1 a1 a2 a3 A4 c4 l4 A5 c5 l5 _ _ _ w he ((insc_f _ _ _ _ _ hE h3 (by omega)).trans rfl)
  · unfold wrongR
    rw [if_pos rfl]
  · have hw : ∀ x ∈ l1, x.length = l0.length := fun x hx => rows_of_check hc x (.inr hx)
    obtain ⟨⟨p1, p2⟩, p3⟩ := xInsCol_zero hx
    exact ⟨Sm.of (by rw [len_putL]; omega) (by rw [outI_length]; omega) (fun x hx => by obtain ⟨i, y, hy, rfl⟩ := mem_outI hx; rw [len_putL, hw y hy]; omega), fun w W he hb => turned_0 A0 c0 l0 A1 c1 l1 a1 a2 a3 A4 c4 l4 A5 c5 l5 w W hb he.r0 he.k0 he.r1 he.k1 he.r4 he.k4 he.r5 he.k5 200000 _ _ (insc_some l0 l1 a1 a3 l4 p1 _ rfl (by omega) p2 hw (by omega) (by omega) (by omega))⟩
theorem do_1 : DoR 1 A0 c0 l0 A1 c1 l1 a1 a2 a3 A4 c4 l4 A5 c5 l5 := by
  have hE := s.sm.okE hs
  have sh := s.h
  have sr := s.r
  refine ⟨xIn a1 l0.length, dropL l0 a1.toNat, l1.map fun l => dropL l a1.toNat, ?_, ?_, fun hc hx => ?_⟩
  · exact fun w he => doE_1 A0 c0 l0 A1 c1 l1 a1 a2 a3 A4 c4 l4 A5 c5 l5 _ _ _ w he ((delc_f _ _ _ hE).trans rfl)
  · unfold wrongR
    rw [if_neg (by decide), if_pos (by decide)]
  · have hw : ∀ x ∈ l1, x.length = l0.length := fun x hx => rows_of_check hc x (.inr hx)
    obtain ⟨p1, p2⟩ := xIn_zero hx
    exact ⟨Sm.of (by have := len_dropL l0 a1.toNat; omega) (by rw [List.length_map]; omega) (fun x hx => by obtain ⟨y, hy, rfl⟩ := List.mem_map.1 hx; have := len_dropL y a1.toNat; have := hw y hy; omega), fun w W he hb => turned_1 A0 c0 l0 A1 c1 l1 a1 a2 a3 A4 c4 l4 A5 c5 l5 w W hb he.r0 he.k0 he.r1 he.k1 he.r4 he.k4 he.r5 he.k5 200000 _ _ (delcol_some l0 l1 a1 p1 _ rfl (by omega) p2 hw (by omega) (by omega))⟩
theorem do_2 : DoR 2 A0 c0 l0 A1 c1 l1 a1 a2 a3 A4 c4 l4 A5 c5 l5 := by
  have hE := s.sm.okE hs
  have sh := s.h
  have sr := s.r
  refine ⟨xIn a1 l0.length, l0.set a1.toNat a3, l1, ?_, ?_, fun hc hx => ?_⟩
  · exact fun w he => doE_2 A0 c0 l0 A1 c1 l1 a1 a2 a3 A4 c4 l4 A5 c5 l5 _ _ _ w he ((ren_f _ _ _ _ hE h3).trans rfl)
  · unfold wrongR
    rw [if_neg (by decide), if_pos (by decide)]
  · have hw : ∀ x ∈ l1, x.length = l0.length := fun x hx => rows_of_check hc x (.inr hx)
    obtain ⟨p1, p2⟩ := xIn_zero hx
    have e : putL (dropL l0 a1.toNat) a1.toNat a3 = l0.set a1.toNat a3 := sets_put a3 (by omega)
    exact ⟨Sm.of (by rw [List.length_set]; omega) (by omega) (fun x hx => by have := s.w x hx; omega), fun w W he hb => by
      rw [← e]
      exact turned_2 A0 c0 l0 A1 c1 l1 a1 a2 a3 A4 c4 l4 A5 c5 l5 w W hb he.r0 he.k0 he.r1 he.k1 he.r4 he.k4 he.r5 he.k5 200000 _ _ (tout_some l0 a1 p1 p2 (by omega) (by omega)) (tput_some _ a1 a3 p1 (by rw [dropL_length (by omega)]; omega) (by rw [dropL_length (by omega)]; omega) (by omega))⟩
theorem do_3 : DoR 3 A0 c0 l0 A1 c1 l1 a1 a2 a3 A4 c4 l4 A5 c5 l5 := by
  have hE := s.sm.okE hs
  have sh := s.h
  have sr := s.r
  refine ⟨xIn2 a1 l0.length a2 l0.length, putL (dropL l0 a1.toNat) a2.toNat (l0.getD a1.toNat ByteArray.empty), l1.map fun l => putL (dropL l a1.toNat) a2.toNat (l.getD a1.toNat ByteArray.empty), ?_, ?_, fun hc hx => ?_⟩
  · exact fun w he => doE_3 A0 c0 l0 A1 c1 l1 a1 a2 a3 A4 c4 l4 A5 c5 l5 _ _ _ w he ((movec_f _ _ _ _ hE).trans rfl)
  · unfold wrongR
    rw [if_neg (by decide), if_neg (by decide), if_pos rfl]
  · have hw : ∀ x ∈ l1, x.length = l0.length := fun x hx => rows_of_check hc x (.inr hx)
    obtain ⟨⟨p1, p2⟩, q1, q2⟩ := xIn2_zero hx
    have e := outI_cols l1 a1.toNat l0.length (fun l => dropL l a1.toNat) (fun c l => putL l a2.toNat c) (by omega) hw
    rw [Int.toNat_of_nonneg p1] at e
    exact ⟨Sm.of (by rw [len_putL]; have := len_dropL l0 a1.toNat; omega) (by rw [List.length_map]; omega) (fun x hx => by obtain ⟨y, hy, rfl⟩ := List.mem_map.1 hx; rw [len_putL]; have := len_dropL y a1.toNat; have := hw y hy; omega), fun w W he hb => by
      rw [← e]
      exact turned_3 A0 c0 l0 A1 c1 l1 a1 a2 a3 A4 c4 l4 A5 c5 l5 w W hb he.r0 he.k0 he.r1 he.k1 he.r4 he.k4 he.r5 he.k5 p1 (by omega) 200000 _ _ _ _ _ (delcol_some l0 l1 a1 p1 _ rfl (by omega) p2 hw (by omega) (by omega)) (rcol_some l0 l1 a1 p1 p2 (by omega) (by omega)) (insc_some _ _ a2 _ _ q1 (l0.length - 1) (dropL_length (by omega)) (by omega) (by omega) (fun x hx => by obtain ⟨y, hy, rfl⟩ := List.mem_map.1 hx; have := hw y hy; rw [dropL_length (by omega)]; omega) (by rw [List.length_map]; omega) (by rw [List.length_map, colT_len]; omega) (by omega))⟩
theorem do_4 : DoR 4 A0 c0 l0 A1 c1 l1 a1 a2 a3 A4 c4 l4 A5 c5 l5 := by
  have hE := s.sm.okE hs
  have sh := s.h
  have sr := s.r
  refine ⟨xIn a1 (l1.length + 1), l0, putL l1 a1.toNat l4, ?_, ?_, fun hc hx => ?_⟩
  · exact fun w he => doE_4 A0 c0 l0 A1 c1 l1 a1 a2 a3 A4 c4 l4 A5 c5 l5 _ _ _ w he ((insr_f _ _ _ _ hE (by omega)).trans rfl)
  · unfold wrongR
    rw [if_neg (by decide), if_neg (by decide), if_neg (by decide), if_pos rfl]
  · have hw : ∀ x ∈ l1, x.length = l0.length := fun x hx => rows_of_check hc x (.inr hx)
    obtain ⟨p1, p2⟩ := xIn_zero hx
    exact ⟨Sm.of (by omega) (by rw [len_putL]; omega) (fun x hx => by exact (mem_putL hx).elim (fun e => by rw [e]; omega) (fun e => by have := s.w x e; omega)), fun w W he hb => turned_4 A0 c0 l0 A1 c1 l1 a1 a2 a3 A4 c4 l4 A5 c5 l5 w W hb he.r0 he.k0 he.r1 he.k1 he.r4 he.k4 he.r5 he.k5 200000 _ (rput_some l1 a1 l4 p1 (by omega) (by omega) (by omega))⟩
theorem do_5 : DoR 5 A0 c0 l0 A1 c1 l1 a1 a2 a3 A4 c4 l4 A5 c5 l5 := by
  have hE := s.sm.okE hs
  have sh := s.h
  have sr := s.r
  refine ⟨xIn a1 l1.length, l0, dropL l1 a1.toNat, ?_, ?_, fun hc hx => ?_⟩
  · exact fun w he => doE_5 A0 c0 l0 A1 c1 l1 a1 a2 a3 A4 c4 l4 A5 c5 l5 _ _ _ w he ((delr_f _ _ _ hE).trans rfl)
  · unfold wrongR
    rw [if_neg (by decide), if_neg (by decide), if_neg (by decide), if_neg (by decide), if_pos rfl]
  · have hw : ∀ x ∈ l1, x.length = l0.length := fun x hx => rows_of_check hc x (.inr hx)
    obtain ⟨p1, p2⟩ := xIn_zero hx
    exact ⟨Sm.of (by omega) (by have := len_dropL l1 a1.toNat; omega) (fun x hx => by have := s.w x (mem_dropL hx); omega), fun w W he hb => turned_5 A0 c0 l0 A1 c1 l1 a1 a2 a3 A4 c4 l4 A5 c5 l5 w W hb he.r0 he.k0 he.r1 he.k1 he.r4 he.k4 he.r5 he.k5 200000 _ (rout_some l1 a1 p1 p2 (by omega) (by omega))⟩
theorem do_6 : DoR 6 A0 c0 l0 A1 c1 l1 a1 a2 a3 A4 c4 l4 A5 c5 l5 := by
  have hE := s.sm.okE hs
  have sh := s.h
  have sr := s.r
  refine ⟨xIn2 a1 l1.length a2 l1.length, l0, putL (dropL l1 a1.toNat) a2.toNat (l1.getD a1.toNat []), ?_, ?_, fun hc hx => ?_⟩
  · exact fun w he => doE_6 A0 c0 l0 A1 c1 l1 a1 a2 a3 A4 c4 l4 A5 c5 l5 _ _ _ w he ((mover_f _ _ _ _ hE).trans rfl)
  · unfold wrongR
    rw [if_neg (by decide), if_neg (by decide), if_neg (by decide), if_neg (by decide), if_neg (by decide), if_pos rfl]
  · have hw : ∀ x ∈ l1, x.length = l0.length := fun x hx => rows_of_check hc x (.inr hx)
    obtain ⟨⟨p1, p2⟩, q1, q2⟩ := xIn2_zero hx
    exact ⟨Sm.of (by omega) (by rw [len_putL]; have := len_dropL l1 a1.toNat; omega) (fun x hx => by exact (mem_putL hx).elim (fun e => by have := s.w _ (List.mem_of_getElem? (some_getD [] (show a1.toNat < l1.length by omega))); rw [e]; omega) (fun e => by have := s.w x (mem_dropL e); omega)), fun w W he hb => turned_6 A0 c0 l0 A1 c1 l1 a1 a2 a3 A4 c4 l4 A5 c5 l5 w W hb he.r0 he.k0 he.r1 he.k1 he.r4 he.k4 he.r5 he.k5 p1 (by omega) 200000 _ _ (rout_some l1 a1 p1 p2 (by omega) (by omega)) (rput_some _ a2 _ q1 (by rw [dropL_length (by omega)]; omega) (by rw [dropL_length (by omega)]; omega) (by omega))⟩
theorem do_7 : DoR 7 A0 c0 l0 A1 c1 l1 a1 a2 a3 A4 c4 l4 A5 c5 l5 := by
  have hE := s.sm.okE hs
  have sh := s.h
  have sr := s.r
  refine ⟨xIn2 a1 l1.length a2 l0.length, l0, l1.set a1.toNat ((l1.getD a1.toNat []).set a2.toNat a3), ?_, ?_, fun hc hx => ?_⟩
  · exact fun w he => doE_7 A0 c0 l0 A1 c1 l1 a1 a2 a3 A4 c4 l4 A5 c5 l5 _ _ _ w he ((set_f _ _ _ _ _ hE).trans rfl)
  · unfold wrongR
    rw [if_neg (by decide), if_neg (by decide), if_neg (by decide), if_neg (by decide), if_neg (by decide), if_neg (by decide), if_pos rfl]
  · have hw : ∀ x ∈ l1, x.length = l0.length := fun x hx => rows_of_check hc x (.inr hx)
    obtain ⟨⟨p1, p2⟩, q1, q2⟩ := xIn2_zero hx
    have hr := hw _ (List.mem_of_getElem? (some_getD [] (show a1.toNat < l1.length by omega)))
    have e1 : putL (dropL (l1.getD a1.toNat []) a2.toNat) a2.toNat a3 = (l1.getD a1.toNat []).set a2.toNat a3 := sets_put a3 (by omega)
    have e2 := sets_put (l := l1) (i := a1.toNat) ((l1.getD a1.toNat []).set a2.toNat a3) (by omega)
    exact ⟨Sm.of (by omega) (by rw [List.length_set]; omega) (fun x hx => by exact (List.mem_or_eq_of_mem_set hx).elim (fun e => by have := s.w x e; omega) (fun e => by rw [e, List.length_set]; omega)), fun w W he hb => by
      rw [← e2]
      exact turned_7 A0 c0 l0 A1 c1 l1 a1 a2 a3 A4 c4 l4 A5 c5 l5 w W hb he.r0 he.k0 he.r1 he.k1 he.r4 he.k4 he.r5 he.k5 p1 (by omega) 200000 _ _ _ _ (rout_some l1 a1 p1 p2 (by omega) (by omega)) (tout_some _ a2 q1 (by omega) (by omega) (by omega)) (by rw [← e1]; exact tput_some _ a2 a3 q1 (by rw [dropL_length (by omega)]; omega) (by rw [dropL_length (by omega)]; omega) (by omega)) (rput_some _ a1 _ p1 (by rw [dropL_length (by omega)]; omega) (by rw [dropL_length (by omega)]; omega) (by omega))⟩
theorem do_8 (kd : Int) (m0 : ¬ kd = 0) (m1 : ¬ kd = 1) (m2 : ¬ kd = 2) (m3 : ¬ kd = 3) (m4 : ¬ kd = 4) (m5 : ¬ kd = 5) (m6 : ¬ kd = 6) (m7 : ¬ kd = 7) : DoR kd A0 c0 l0 A1 c1 l1 a1 a2 a3 A4 c4 l4 A5 c5 l5 := by
  have hE := s.sm.okE hs
  have sh := s.h
  have sr := s.r
  refine ⟨xProj l5 l0.length, projL l5 l0, l1.map fun r => projL l5 r, ?_, ?_, fun hc hx => ?_⟩
  · exact fun w he => doE_8 kd (beq_eq_false_iff_ne.2 m0) m0 (beq_eq_false_iff_ne.2 m1) m1 (beq_eq_false_iff_ne.2 m2) m2 (beq_eq_false_iff_ne.2 m3) m3 (beq_eq_false_iff_ne.2 m4) m4 (beq_eq_false_iff_ne.2 m5) m5 (beq_eq_false_iff_ne.2 m6) m6 (beq_eq_false_iff_ne.2 m7) m7 A0 c0 l0 A1 c1 l1 a1 a2 a3 A4 c4 l4 A5 c5 l5 _ _ _ w he ((proj_f _ _ _ hE (by omega)).trans rfl)
  · unfold wrongR
    rw [if_neg m0, if_neg (by omega), if_neg m3, if_neg m4, if_neg m5, if_neg m6, if_neg m7]
  · have hw : ∀ x ∈ l1, x.length = l0.length := fun x hx => rows_of_check hc x (.inr hx)
    have hin := xProj_zero hx
    exact ⟨Sm.of (by rw [projL_length]; omega) (by rw [List.length_map]; omega) (fun x hx => by obtain ⟨y, hy, rfl⟩ := List.mem_map.1 hx; rw [projL_length]; omega), fun w W he hb => turned_8 kd A0 c0 l0 A1 c1 l1 a1 a2 a3 A4 c4 l4 A5 c5 l5 w W hb he.r0 he.k0 he.r1 he.k1 he.r4 he.k4 he.r5 he.k5 (beq_eq_false_iff_ne.2 m0) m0 (beq_eq_false_iff_ne.2 m1) m1 (beq_eq_false_iff_ne.2 m2) m2 (beq_eq_false_iff_ne.2 m3) m3 (beq_eq_false_iff_ne.2 m4) m4 (beq_eq_false_iff_ne.2 m5) m5 (beq_eq_false_iff_ne.2 m6) m6 (beq_eq_false_iff_ne.2 m7) m7 200000 _ _ (rproj_some l0 l1 l5 (by omega) hin hw (by omega) (by omega))⟩
theorem do_all (kd : Int) : DoR kd A0 c0 l0 A1 c1 l1 a1 a2 a3 A4 c4 l4 A5 c5 l5 := by
  by_cases m0 : kd = 0
  · subst m0; exact do_0 A0 c0 l0 A1 c1 l1 a1 a2 a3 A4 c4 l4 A5 c5 l5 s hs h3 h4 h5
  by_cases m1 : kd = 1
  · subst m1; exact do_1 A0 c0 l0 A1 c1 l1 a1 a2 a3 A4 c4 l4 A5 c5 l5 s hs h3 h4 h5
  by_cases m2 : kd = 2
  · subst m2; exact do_2 A0 c0 l0 A1 c1 l1 a1 a2 a3 A4 c4 l4 A5 c5 l5 s hs h3 h4 h5
  by_cases m3 : kd = 3
  · subst m3; exact do_3 A0 c0 l0 A1 c1 l1 a1 a2 a3 A4 c4 l4 A5 c5 l5 s hs h3 h4 h5
  by_cases m4 : kd = 4
  · subst m4; exact do_4 A0 c0 l0 A1 c1 l1 a1 a2 a3 A4 c4 l4 A5 c5 l5 s hs h3 h4 h5
  by_cases m5 : kd = 5
  · subst m5; exact do_5 A0 c0 l0 A1 c1 l1 a1 a2 a3 A4 c4 l4 A5 c5 l5 s hs h3 h4 h5
  by_cases m6 : kd = 6
  · subst m6; exact do_6 A0 c0 l0 A1 c1 l1 a1 a2 a3 A4 c4 l4 A5 c5 l5 s hs h3 h4 h5
  by_cases m7 : kd = 7
  · subst m7; exact do_7 A0 c0 l0 A1 c1 l1 a1 a2 a3 A4 c4 l4 A5 c5 l5 s hs h3 h4 h5
  exact do_8 A0 c0 l0 A1 c1 l1 a1 a2 a3 A4 c4 l4 A5 c5 l5 s hs h3 h4 h5 kd m0 m1 m2 m3 m4 m5 m6 m7
/-- An edit, and what the document answers: one table. -/
theorem do_both (kd : Int) : ∃ R, DeT kd A0 c0 l0 A1 c1 l1 a1 a2 a3 A4 c4 l4 A5 c5 l5 R ∧ Sm R.1 R.2.1 ∧ ∀ w, Ea A0 c0 l0 A1 c1 l1 A4 c4 l4 A5 c5 l5 w → Calls Try.prog 14 #[.agg #[.slice A0 l0.length c0, .slice A1 l1.length c1], .agg #[.int .i64 kd, .int .i64 a1, .int .i64 a2, .string a3, .slice A4 l4.length c4, .slice A5 l5.length c5]] w (DoT w R.1 R.2.1 R.2.2) := by
  obtain ⟨x, r1, r2, h1, h2, h6⟩ := do_all A0 c0 l0 A1 c1 l1 a1 a2 a3 A4 c4 l4 A5 c5 l5 s hs h3 h4 h5 kd
  refine ⟨_, h1, ?_, fun w he => ?_⟩
  · unfold madeT
    by_cases q1 : checkT l0 l1 = 0
    · rw [if_neg (by simp [q1])]
      by_cases q2 : x = 0
      · rw [if_neg (by simp [q2])]
        split
        · exact Sm.of (Nat.zero_le _) (Nat.zero_le _) (fun x hx => nomatch hx)
        · exact (h6 q1 q2).1
      · rw [if_pos q2]
        exact Sm.of (Nat.zero_le _) (Nat.zero_le _) (fun x hx => nomatch hx)
    · rw [if_pos q1]
      exact Sm.of (Nat.zero_le _) (Nat.zero_le _) (fun x hx => nomatch hx)
  · have sh := s.h
    have sr := s.r
    exact do_ref kd A0 c0 l0 A1 c1 l1 a1 a2 a3 A4 c4 l4 A5 c5 l5 w he.r0 he.k0 he.r1 he.k1 he.r4 he.k4 he.r5 he.k5 200000 (checkT l0 l1) x (checkT r1 r2) r1 r2 (chk_some _ _ s.sm (by omega)) (fun _ => by rw [← h2]; exact wrong_some _ _ _ _ _ _ _ _ (by omega) (by omega) (by omega) (by omega)) (fun e1 e2 W hW => (h6 e1 e2).2 w W he hW) (fun e1 e2 => chk_some _ _ (h6 e1 e2).1 (by omega)) _ rfl
end
end Go.Proofs.Ytaolakknkhggnaa.X
end
section
namespace Go.Proofs.Ytaolakknkhggnaa.X
open Go.RowKit Go.Maps Go.Proofs.YtaolakknkhggnaaW.PrintWords Go.Proofs.YtaolakknkhggnaaW.PrintLast
set_option linter.unusedVariables false
structure TY (w : World) (tc xc : Array Value) (W : World) : Prop where
  t : W.heap[w.heap.size]? = some (.cells tc 25 (0, 0))
  x : W.heap[w.heap.size + 1]? = some (.cells xc 28 (0, 0))
  lo : Below w.heap.size w W
theorem TY.below {w : World} {tc xc : Array Value} {W W' : World} (h : TY w tc xc W) (hb : Below W.heap.size W W') : TY w tc xc W' :=
  ⟨(hb.block _ (lt_of_block h.t)).trans h.t, (hb.block _ (lt_of_block h.x)).trans h.x, h.lo.trans (hb.mono h.lo.size)⟩
theorem ty_start (w : World) (tc xc : Array Value) : TY w tc xc ((w.alloc (.cells tc 25)).alloc (.cells xc 28)) := by
  have h1 := blk_new (w.alloc (.cells tc 25)) (.cells xc 28)
  rw [World.size_alloc] at h1
  exact ⟨((below_alloc (Below.refl _ (w.alloc (.cells tc 25))) _).block _ (by simp)).trans (blk_new w _), h1, below_alloc (below_alloc (Below.refl _ _) _) _⟩
def okN (hd : List ByteArray) (s : ByteArray) : Bool := hd.all (fun x => decide (x.size ≤ maxLen)) && decide (s.size ≤ maxLen)
theorem okN_of {hd : List ByteArray} {s : ByteArray} (h : okN hd s = true) : okS hd ∧ s.size ≤ maxLen := by
  unfold okN at h
  rw [Bool.and_eq_true, List.all_eq_true] at h
  exact ⟨fun x hx => of_decide_eq_true (h.1 x hx), of_decide_eq_true h.2⟩
theorem okN_mk {hd : List ByteArray} {s : ByteArray} (h : ∀ x ∈ hd, x.size ≤ maxLen) (g : s.size ≤ maxLen) : okN hd s = true := by
  unfold okN
  rw [Bool.and_eq_true, List.all_eq_true]
  exact ⟨fun x hx => decide_eq_true (h x hx), decide_eq_true g⟩
end Go.Proofs.Ytaolakknkhggnaa.X
end
section
namespace Go.Proofs.Ytaolakknkhggnaa.X
open Go.RowKit Go.Maps Go.Proofs.YtaolakknkhggnaaW.PrintWords Go.Proofs.YtaolakknkhggnaaW.PrintLast
set_option linter.unusedVariables false
set_option maxRecDepth 100000 in
set_option maxHeartbeats 8000000 in
theorem law_Line (kd : Int) (A0 : Option Addr) (c0 : Nat) (l0 : List ByteArray) (A1 : Option Addr) (c1 : Nat) (l1 : List (List ByteArray)) (a1 a2 : Int) (a3 : ByteArray) (A4 : Option Addr) (c4 : Nat) (l4 : List ByteArray) (A5 : Option Addr) (c5 : Nat) (l5 : List Int) (w : World) (he : Ea A0 c0 l0 A1 c1 l1 A4 c4 l4 A5 c5 l5 w) (hok : okN l0 a3 = true) :
    Calls Try.prog 4 #[.agg #[.slice A0 l0.length c0, .slice A1 l1.length c1], .agg #[.int .i64 kd, .int .i64 a1, .int .i64 a2, .string a3, .slice A4 l4.length c4, .slice A5 l5.length c5]] w fun e w' => e = .returned (.bool true) ∧ Below w.heap.size w w' := by
  obtain ⟨W0, hW0⟩ : ∃ W0, Aside0 ((w.alloc (.cells #[.slice A0 l0.length c0, .slice A1 l1.length c1] 25)).alloc (.cells #[.int .i64 kd, .int .i64 a1, .int .i64 a2, .string a3, .slice A4 l4.length c4, .slice A5 l5.length c5] 28) = W0) := ⟨_, ⟨rfl⟩⟩
  have HX0 : Aside0 (TY w #[.slice A0 l0.length c0, .slice A1 l1.length c1] #[.int .i64 kd, .int .i64 a1, .int .i64 a2, .string a3, .slice A4 l4.length c4, .slice A5 l5.length c5] W0) := ⟨by rw [← hW0.out]; exact ty_start w _ _⟩
  have HE := Aside0.mk he
  clear he
  obtain ⟨q1, f1, g1⟩ := few6 l0 l1 (k := 20000) (by omega)
  have HF := Aside0.mk f1
  clear f1
  cases q1 with
  | false =>
    clear g1
    go_enter Try.func4, Try.ntmps4
    go_wp2_with (first
      | (go_at_call 10; rw [hW0.out]; refine (works_calls W0).mono ?_; rintro e w1 ⟨rfl, hb⟩; have HX1 := Aside0.mk (HX0.out.below hb); have t0 := blk_cell HX1.out.t 0; have t1 := blk_cell HX1.out.t 1; clear hb HX0)
      | (go_at_call 11; refine (tartanref04_Few.calls 20000 A0 c0 l0 A1 c1 l1 false w1 (Kd.C_below HE.out.r0 HX1.out.lo) HE.out.k0 (Kd.C_below HE.out.r1 HX1.out.lo) HE.out.k1 HF.out).mono ?_; rintro e w2 ⟨rfl, hb⟩; have HX2 := Aside0.mk (HX1.out.below hb); have x0 := blk_cell HX2.out.x 0; have x1 := blk_cell HX2.out.x 1; have x2 := blk_cell HX2.out.x 2; have x3 := blk_cell HX2.out.x 3; have x4 := blk_cell HX2.out.x 4; have x5 := blk_cell HX2.out.x 5; clear t0 t1 hb HX1))
    go_ret
    exact ⟨by simp, HX2.out.lo⟩
  | true =>
    have s := g1 rfl
    obtain ⟨q2, f2, g2⟩ := fewx_some kd a1 a2 a3 l4 l5 (k := 20000) (by omega)
    have HG := Aside0.mk f2
    clear f2 g1
    cases q2 with
    | false =>
      clear g2
      go_enter Try.func4, Try.ntmps4
      go_wp2_with (first
        | (go_at_call 10; rw [hW0.out]; refine (works_calls W0).mono ?_; rintro e w1 ⟨rfl, hb⟩; have HX1 := Aside0.mk (HX0.out.below hb); have t0 := blk_cell HX1.out.t 0; have t1 := blk_cell HX1.out.t 1; clear hb HX0)
        | (go_at_call 11; refine (tartanref04_Few.calls 20000 A0 c0 l0 A1 c1 l1 true w1 (Kd.C_below HE.out.r0 HX1.out.lo) HE.out.k0 (Kd.C_below HE.out.r1 HX1.out.lo) HE.out.k1 HF.out).mono ?_; rintro e w2 ⟨rfl, hb⟩; have HX2 := Aside0.mk (HX1.out.below hb); have x0 := blk_cell HX2.out.x 0; have x1 := blk_cell HX2.out.x 1; have x2 := blk_cell HX2.out.x 2; have x3 := blk_cell HX2.out.x 3; have x4 := blk_cell HX2.out.x 4; have x5 := blk_cell HX2.out.x 5; clear t0 t1 hb HX1)
        | (go_at_call 12; refine (tartanlaw05_few.calls 20000 kd a1 a2 a3 A4 c4 l4 A5 c5 l5 false w2 (Kd.C_below HE.out.r4 HX2.out.lo) HE.out.k4 (Kd.C_below HE.out.r5 HX2.out.lo) HE.out.k5 HG.out).mono ?_; rintro e w3 ⟨rfl, hb⟩; have HX3 := Aside0.mk (HX2.out.below hb); clear x0 x1 x2 x3 x4 x5; have t0 := blk_cell HX3.out.t 0; have t1 := blk_cell HX3.out.t 1; have x0 := blk_cell HX3.out.x 0; have x1 := blk_cell HX3.out.x 1; have x2 := blk_cell HX3.out.x 2; have x3 := blk_cell HX3.out.x 3; have x4 := blk_cell HX3.out.x 4; have x5 := blk_cell HX3.out.x 5; clear hb HX2))
      go_ret
      exact ⟨by simp, HX3.out.lo⟩
    | true =>
      obtain ⟨h4, h5⟩ := g2 rfl
      clear g2
      by_cases k1 : kd < 4
      · have k1b := decide_eq_true k1
        go_enter Try.func4, Try.ntmps4
        go_wp2_with (first
          | (go_at_call 10; rw [hW0.out]; refine (works_calls W0).mono ?_; rintro e w1 ⟨rfl, hb⟩; have HX1 := Aside0.mk (HX0.out.below hb); have t0 := blk_cell HX1.out.t 0; have t1 := blk_cell HX1.out.t 1; clear hb HX0)
          | (go_at_call 11; refine (tartanref04_Few.calls 20000 A0 c0 l0 A1 c1 l1 true w1 (Kd.C_below HE.out.r0 HX1.out.lo) HE.out.k0 (Kd.C_below HE.out.r1 HX1.out.lo) HE.out.k1 HF.out).mono ?_; rintro e w2 ⟨rfl, hb⟩; have HX2 := Aside0.mk (HX1.out.below hb); have x0 := blk_cell HX2.out.x 0; have x1 := blk_cell HX2.out.x 1; have x2 := blk_cell HX2.out.x 2; have x3 := blk_cell HX2.out.x 3; have x4 := blk_cell HX2.out.x 4; have x5 := blk_cell HX2.out.x 5; clear t0 t1 hb HX1)
          | (go_at_call 12; refine (tartanlaw05_few.calls 20000 kd a1 a2 a3 A4 c4 l4 A5 c5 l5 true w2 (Kd.C_below HE.out.r4 HX2.out.lo) HE.out.k4 (Kd.C_below HE.out.r5 HX2.out.lo) HE.out.k5 HG.out).mono ?_; rintro e w3 ⟨rfl, hb⟩; have HX3 := Aside0.mk (HX2.out.below hb); clear x0 x1 x2 x3 x4 x5; have t0 := blk_cell HX3.out.t 0; have t1 := blk_cell HX3.out.t 1; have x0 := blk_cell HX3.out.x 0; have x1 := blk_cell HX3.out.x 1; have x2 := blk_cell HX3.out.x 2; have x3 := blk_cell HX3.out.x 3; have x4 := blk_cell HX3.out.x 4; have x5 := blk_cell HX3.out.x 5; clear hb HX2))
        go_ret
        exact ⟨by simp, HX3.out.lo⟩
      · have k1b := decide_eq_false k1
        have k1c : ¬ kd < 4 := by omega
        by_cases k2 : kd > 7
        · have k2b := decide_eq_true k2
          go_enter Try.func4, Try.ntmps4
          go_wp2_with (first
            | (go_at_call 10; rw [hW0.out]; refine (works_calls W0).mono ?_; rintro e w1 ⟨rfl, hb⟩; have HX1 := Aside0.mk (HX0.out.below hb); have t0 := blk_cell HX1.out.t 0; have t1 := blk_cell HX1.out.t 1; clear hb HX0)
            | (go_at_call 11; refine (tartanref04_Few.calls 20000 A0 c0 l0 A1 c1 l1 true w1 (Kd.C_below HE.out.r0 HX1.out.lo) HE.out.k0 (Kd.C_below HE.out.r1 HX1.out.lo) HE.out.k1 HF.out).mono ?_; rintro e w2 ⟨rfl, hb⟩; have HX2 := Aside0.mk (HX1.out.below hb); have x0 := blk_cell HX2.out.x 0; have x1 := blk_cell HX2.out.x 1; have x2 := blk_cell HX2.out.x 2; have x3 := blk_cell HX2.out.x 3; have x4 := blk_cell HX2.out.x 4; have x5 := blk_cell HX2.out.x 5; clear t0 t1 hb HX1)
            | (go_at_call 12; refine (tartanlaw05_few.calls 20000 kd a1 a2 a3 A4 c4 l4 A5 c5 l5 true w2 (Kd.C_below HE.out.r4 HX2.out.lo) HE.out.k4 (Kd.C_below HE.out.r5 HX2.out.lo) HE.out.k5 HG.out).mono ?_; rintro e w3 ⟨rfl, hb⟩; have HX3 := Aside0.mk (HX2.out.below hb); clear x0 x1 x2 x3 x4 x5; have t0 := blk_cell HX3.out.t 0; have t1 := blk_cell HX3.out.t 1; have x0 := blk_cell HX3.out.x 0; have x1 := blk_cell HX3.out.x 1; have x2 := blk_cell HX3.out.x 2; have x3 := blk_cell HX3.out.x 3; have x4 := blk_cell HX3.out.x 4; have x5 := blk_cell HX3.out.x 5; clear hb HX2))
          go_ret
          exact ⟨by simp, HX3.out.lo⟩
        · have k2b := decide_eq_false k2
          have k2c : ¬ kd > 7 := by omega
          obtain ⟨ho1, ho2⟩ := okN_of hok
          obtain ⟨⟨r1, r2, r3⟩, d1, d2, d3⟩ := do_both A0 c0 l0 A1 c1 l1 a1 a2 a3 A4 c4 l4 A5 c5 l5 s ho1 ho2 h4 h5 kd
          have HD := Aside0.mk d1
          have HO := Aside0.mk d3
          have HS : Aside0 (tartanref04_Same.f 20000 r1 r2 r1 r2 = some true) := ⟨(tsame_some _ _ _ _ d2 (by omega)).trans (by simp)⟩
          clear d1 d2 d3 h4 h5 s hok ho1 ho2
          go_enter Try.func4, Try.ntmps4
          go_wp2_with (first
            | (go_at_call 10; rw [hW0.out]; refine (works_calls W0).mono ?_; rintro e w1 ⟨rfl, hb⟩; have HX1 := Aside0.mk (HX0.out.below hb); have t0 := blk_cell HX1.out.t 0; have t1 := blk_cell HX1.out.t 1; clear hb HX0)
            | (go_at_call 11; refine (tartanref04_Few.calls 20000 A0 c0 l0 A1 c1 l1 true w1 (Kd.C_below HE.out.r0 HX1.out.lo) HE.out.k0 (Kd.C_below HE.out.r1 HX1.out.lo) HE.out.k1 HF.out).mono ?_; rintro e w2 ⟨rfl, hb⟩; have HX2 := Aside0.mk (HX1.out.below hb); have x0 := blk_cell HX2.out.x 0; have x1 := blk_cell HX2.out.x 1; have x2 := blk_cell HX2.out.x 2; have x3 := blk_cell HX2.out.x 3; have x4 := blk_cell HX2.out.x 4; have x5 := blk_cell HX2.out.x 5; clear t0 t1 hb HX1)
            | (go_at_call 12; refine (tartanlaw05_few.calls 20000 kd a1 a2 a3 A4 c4 l4 A5 c5 l5 true w2 (Kd.C_below HE.out.r4 HX2.out.lo) HE.out.k4 (Kd.C_below HE.out.r5 HX2.out.lo) HE.out.k5 HG.out).mono ?_; rintro e w3 ⟨rfl, hb⟩; have HX3 := Aside0.mk (HX2.out.below hb); clear x0 x1 x2 x3 x4 x5; have t0 := blk_cell HX3.out.t 0; have t1 := blk_cell HX3.out.t 1; have x0 := blk_cell HX3.out.x 0; have x1 := blk_cell HX3.out.x 1; have x2 := blk_cell HX3.out.x 2; have x3 := blk_cell HX3.out.x 3; have x4 := blk_cell HX3.out.x 4; have x5 := blk_cell HX3.out.x 5; clear hb HX2)
            | (go_at_call 13; refine (HD.out _ (HE.out.below HX3.out.lo)).mono ?_; rintro e w4 ⟨A9, c9, B9, d9, rfl, hc9, hd9, hC9, hD9, hb⟩; have hal := below_alloc (Below.refl w4.heap.size w4) (.cells #[.slice A9 r1.length c9, .slice B9 r2.length d9] 25); have HX4 := Aside0.mk ((HX3.out.below hb).below hal); have HU4 := Aside0.mk (blk_new w4 (.cells #[.slice A9 r1.length c9, .slice B9 r2.length d9] 25)); have HV4 := Aside0.mk (And.intro (Kd.C_below hC9 hal) (Kd.C_below hD9 hal)); clear t0 t1 x0 x1 x2 x3 x4 x5 hb HX3 hal hC9 hD9; have t0 := blk_cell HX4.out.t 0; have t1 := blk_cell HX4.out.t 1; have x0 := blk_cell HX4.out.x 0; have x1 := blk_cell HX4.out.x 1; have x2 := blk_cell HX4.out.x 2; have x3 := blk_cell HX4.out.x 3; have x4 := blk_cell HX4.out.x 4; have x5 := blk_cell HX4.out.x 5; have M9 := Aside0.mk trivial)
            | (clear M9; go_at_call 14; refine (HO.out _ (HE.out.below HX4.out.lo)).mono ?_; rintro e w5 ⟨A, c, B, d, rfl, hc, hd, hC, hD, hb⟩; have hal := below_alloc (Below.refl w5.heap.size w5) (.cells #[.slice A r1.length c, .slice B r2.length d] 25); have HX5 := Aside0.mk ((HX4.out.below hb).below hal); have HU5 := Aside0.mk ((hal.block _ (lt_of_block ((hb.block _ (lt_of_block HU4.out)).trans HU4.out))).trans ((hb.block _ (lt_of_block HU4.out)).trans HU4.out)); have HN5 := Aside0.mk (blk_new w5 (.cells #[.slice A r1.length c, .slice B r2.length d] 25)); have HV5 := Aside0.mk (And.intro (And.intro (Kd.C_below (Kd.C_below HV4.out.1 hb) hal) (Kd.C_below (Kd.C_below HV4.out.2 hb) hal)) (And.intro (Kd.C_below hC hal) (Kd.C_below hD hal))); clear t0 t1 x0 x1 x2 x3 x4 x5 hb HX4 hal hC hD HU4 HV4; have u0 := blk_cell HU5.out 0; have u1 := blk_cell HU5.out 1; have v0 := blk_cell HN5.out 0; have v1 := blk_cell HN5.out 1)
            | (go_at_call 15; refine (tartanref04_Same.calls 20000 A9 c9 r1 B9 d9 r2 A c r1 B d r2 true _ HV5.out.1.1 hc9 HV5.out.1.2 hd9 HV5.out.2.1 hc HV5.out.2.2 hd HS.out).mono ?_; rintro e w6 ⟨rfl, hb⟩; have HX6 := Aside0.mk (HX5.out.below hb); clear u0 u1 v0 v1 hb HX5))
          go_ret
          exact ⟨by simp, HX6.out.lo⟩
def tartanlaw05_EditRows.f (k : Nat) (l0_0 : List ByteArray) (l0_1 : List (List ByteArray)) (a1_0 a1_1 a1_2 : Int) (a1_3 : ByteArray) (l1_4 : List ByteArray) (l1_5 : List Int) : Option Bool := if okN l0_0 a1_3 = true then some true else none
theorem tartanlaw05_EditRows.calls (k : Nat) (A0_0 : Option Addr) (c0_0 : Nat) (l0_0 : List ByteArray) (A0_1 : Option Addr) (c0_1 : Nat) (l0_1 : List (List ByteArray)) (a1_0 : Int) (a1_1 : Int) (a1_2 : Int) (a1_3 : ByteArray) (A1_4 : Option Addr) (c1_4 : Nat) (l1_4 : List ByteArray) (A1_5 : Option Addr) (c1_5 : Nat) (l1_5 : List Int) (r : Bool) (w : World) (hr0_0 : Kd.C Kd.string w A0_0 l0_0.length l0_0) (hc0_0 : l0_0.length ≤ c0_0) (hr0_1 : Kd.C (Kd.slice 9 Kd.string) w A0_1 l0_1.length l0_1) (hc0_1 : l0_1.length ≤ c0_1) (hr1_4 : Kd.C Kd.string w A1_4 l1_4.length l1_4) (hc1_4 : l1_4.length ≤ c1_4) (hr1_5 : Kd.C (Kd.int .i64) w A1_5 l1_5.length l1_5) (hc1_5 : l1_5.length ≤ c1_5) (h : tartanlaw05_EditRows.f k l0_0 l0_1 a1_0 a1_1 a1_2 a1_3 l1_4 l1_5 = some r) :
    Calls Try.prog 4 #[.agg #[.slice A0_0 l0_0.length c0_0, .slice A0_1 l0_1.length c0_1], .agg #[.int .i64 a1_0, .int .i64 a1_1, .int .i64 a1_2, .string a1_3, .slice A1_4 l1_4.length c1_4, .slice A1_5 l1_5.length c1_5]] w fun e w' => e = .returned (.bool r) ∧ Below w.heap.size w w' := by
  unfold tartanlaw05_EditRows.f at h
  split at h
  · rename_i hok
    rw [← Option.some.inj h]
    exact law_Line a1_0 A0_0 c0_0 l0_0 A0_1 c0_1 l0_1 a1_1 a1_2 a1_3 A1_4 c1_4 l1_4 A1_5 c1_5 l1_5 w ⟨hr0_0, hc0_0, hr0_1, hc0_1, hr1_4, hc1_4, hr1_5, hc1_5⟩ hok
  · exact nomatch h
end Go.Proofs.Ytaolakknkhggnaa.X
end
section
namespace Go.Proofs.Ytaolakknkhggnaa.X
open Go.RowKit Go.Proofs.YtaolakknkhggnaaW.PrintWords
set_option linter.unusedVariables false
theorem pure_EditRows : ∀ (x0 : S25) (x1 : S28), okT25 x0 → okT28 x1 → ∃ k, tartanlaw05_EditRows.f k x0.f0 x0.f1 x1.f0 x1.f1 x1.f2 x1.f3 x1.f4 x1.f5 = some true := by
  intro x0 x1 o0 o1
  refine ⟨0, ?_⟩
  unfold tartanlaw05_EditRows.f
  rw [if_pos (okN_mk o0.1.2 o1.2.2.2.1)]
end Go.Proofs.Ytaolakknkhggnaa.X
end
